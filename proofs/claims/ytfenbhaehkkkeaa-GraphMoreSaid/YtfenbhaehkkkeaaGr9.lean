/-
 Layer 18: Log.
-/
import Derived.Test.YtfenbhaehkkkeaaGr8
import Derived.Test.YtfenbhaehkkkeaaSho
namespace Go.Proofs.Ytfenbhaehkkkeaa
open Go Go.SL
def CntIs (cm : GoMap T Int) (L : List T) : Prop := ∀ p, (cm.get p).getD 0 = (L.count p : Int)
theorem intAt {m : GoMap T Int} {p : T} : ((m.get p).map vi).getD (vi 0) = vi ((m.get p).getD 0) := by cases m.get p <;> rfl
theorem CntIs.next {cm : GoMap T Int} {L : List T} {p : T} (h : CntIs cm L) : CntIs (cm.set p ((L.count p : Int) + 1)) (L ++ [p]) := fun x => by
 rw [GoMap.get_set, List.count_append]
 by_cases e : x = p
 ·
  subst e; rw [if_pos rfl]; simp
 ·
  rw [if_neg e, h x, List.count_eq_zero_of_not_mem (l := [p]) (by simpa using e)]; simp
theorem rem_nil {G : PG} {al : List T} {p : T} : rem G al [] p = (al.flatMap G.pars).count p := by
 unfold rem
 rw [List.filter_eq_self.2 (fun a _ => by simp)]
structure Ready (G : PG) (gm : GoMap T Nv) (al ys : List T) (H : List Nv) : Prop where
 hn : (H.map (·.1)).Nodup
 hq : ∀ q ∈ H, gm.get q.1 = some q
 hs : ∀ x, x ∈ H.map (·.1) ↔ x ∈ ys ∧ (al.flatMap G.pars).count x = 0
theorem Ready.skip {G : PG} {gm : GoMap T Nv} {al ys : List T} {H : List Nv} {p : T} (h : Ready G gm al ys H) (hp : (al.flatMap G.pars).count p ≠ 0) : Ready G gm al (ys ++ [p]) H :=
 ⟨h.hn, h.hq, fun x => by
  rw [h.hs, List.mem_append, List.mem_singleton]
  exact ⟨fun g => ⟨.inl g.1, g.2⟩, fun g => ⟨g.1.elim id (fun e => absurd (e ▸ g.2) hp), g.2⟩⟩⟩
theorem Ready.push {G : PG} {gm : GoMap T Nv} {al ys : List T} {H H2 : List Nv} {p : T} {q : Nv} (h : Ready G gm al ys H) (hp : (al.flatMap G.pars).count p = 0) (hnew : p ∉ ys) (hq : gm.get p = some q) (hqp : q.1 = p) (h2 : H2.Perm (H ++ [q])) : Ready G gm al (ys ++ [p]) H2 := by
 have hm : ∀ x, x ∈ H2.map (·.1) ↔ x ∈ H.map (·.1) ∨ x = p := fun x => by
  rw [(h2.map (·.1)).mem_iff, List.map_append, List.mem_append, List.map_singleton, List.mem_singleton, hqp]
 have hnp : p ∉ H.map (·.1) := fun g => hnew ((h.hs p).1 g).1
 refine ⟨?_, fun r hr => ?_, fun x => ?_⟩
 ·
  rw [(h2.map (·.1)).nodup_iff, List.map_append, List.map_singleton, List.nodup_append]
  exact ⟨h.hn, by simp, fun a ha b hb => by rw [List.mem_singleton.1 hb, hqp]; rintro rfl; exact hnp ha⟩
 ·
  rcases List.mem_append.1 (h2.mem_iff.1 hr) with g | g
  ·
   exact h.hq r g
  ·
   rw [List.mem_singleton.1 g, hqp]; exact hq
 ·
  rw [hm, h.hs, List.mem_append, List.mem_singleton]
  constructor
  ·
   rintro (⟨g1, g2⟩ | rfl)
   ·
    exact ⟨.inl g1, g2⟩
   ·
    exact ⟨.inr rfl, hp⟩
  ·
   rintro ⟨g1 | g1, g2⟩
   ·
    exact .inl ⟨g1, g2⟩
   ·
    exact .inr g1
theorem Ready.size {G : PG} {gm : GoMap T Nv} {al ys : List T} {H : List Nv} (h : Ready G gm al ys H) : H.length ≤ ys.length := by
 have := nodup_len' h.hn (l' := ys) (fun x hx => ((h.hs x).1 hx).1)
 rwa [List.length_map] at this
theorem Ready.log {G : PG} {gm : GoMap T Nv} {A : T → Prop} {al ys : List T} {H : List Nv} (ha : ∀ x, x ∈ al ↔ A x) (hy : ∀ x, x ∈ ys ↔ A x) (h : Ready G gm al ys H) : LogAt G A gm [] H :=
 ⟨List.nodup_nil, fun _ h => absurd h List.not_mem_nil, fun _ h => absurd h List.not_mem_nil, h.hn, h.hq, fun x => by
  rw [h.hs, free_rem ha, rem_nil, hy]
  exact ⟨fun g => ⟨g.1, List.not_mem_nil, g.2⟩, fun g => ⟨g.1, g.2.2⟩⟩⟩
theorem Came.fresh {β : Type} {m : GoMap T β} {xs : List T} {seen : List Nat} {x : T × β × Nat} (h : Came m xs seen) (h1 : x ∈ m.l) (h2 : x.2.2 ∉ seen) : x.1 ∉ xs := by
 obtain ⟨ys, g1, g2, rfl, rfl⟩ := h.ex
 intro hm
 obtain ⟨y, hy, e⟩ := List.mem_map.1 hm
 have := entry_eq (g2 y hy) h1 (.inr e)
 subst this
 exact h2 (List.mem_map_of_mem hy)
section
variable {R : List RO} {O O' : List Own} {POST : Value → List RO → List Own → Prop} {gv : Value} {G : PG}
set_option maxRecDepth 20000 in
theorem logN_spec {fs : List T} {fv : Value} (h0 : G.ks = []) (hc : Closed G) (hS : Small G) (hf : SlE (SL.one vs) fv fs ∈ R) (hsz : fs.length ≤ 500000) (hk : ∀ v, POST v R (accT v [] :: O)) :
  Fun Try.prog 23 #[.pointer none, fv] R O POST := by
 have hr := hS.rest fun _ => false
 refine Fun.enter (l := [_, _]) Try.func23 rfl Try.ntmps23 rfl (L0 := [(0, _), (1, _)]) rfl ?_
 refine WC.seq ?_
 refine WC.region ?_
 refine WL.rd rfl rfl rfl (Rd.assign rfl rfl) ?_
 refine WL.nil ?_
 refine thenQ.normal ?_
 refine WC.seq ?_
 refine WC.region ?_
 refine WL.rd rfl rfl rfl (Rd.move rfl rfl) ?_
 refine WL.rd rfl rfl rfl (Rd.move rfl rfl) ?_
 refine WL.op rfl ?_
 refine OpW.call rfl rfl (by repeat (first | exact Evs.nil | apply Evs.cons rfl)) (by kernel_rfl) rfl rfl rfl ?_
 refine mark_spec (.nil rfl h0) hc hf (by omega) ?_; intro b18 m hm hml
 rw [h0] at hml
 have hml0 : m.l = [] := List.length_eq_zero_iff.1 (Nat.le_zero.1 hml)
 refine WL.heap (fun w h => Sat.shareM (m := m) Z.T h) ?_
 refine WL.rd rfl rfl rfl (Rd.assign rfl rfl) ?_
 refine WL.nil ?_
 refine thenQ.normal ?_
 refine WC.seq ?_
 refine WC.region ?_
 refine WL.op rfl ?_
 refine OpW.makeMap vs vi rfl rfl rfl ?_; intro b19
 refine WL.rd rfl rfl rfl (Rd.assign rfl rfl) ?_
 refine WL.nil ?_
 refine thenQ.normal ?_
 refine WC.seq ?_
 refine WC.seq ?_
 refine WC.region ?_
 refine WL.rd rfl rfl rfl (Rd.move rfl rfl) ?_
 refine WL.op rfl ?_
 refine OpW.rangeM (kenc := vs) (venc := vbl) (m := m) M69 rfl rfl (by repeat (first | assumption | exact mS | apply mT)) rfl rfl ?_; intro it
 refine WL.nil ?_
 refine thenQ.normal ?_
 refine WC.block ?_
 refine WC.pick [0, 5, 6, 21] (by repeat (first | exact Pick.nil | apply Pick.cons rfl)) ?_
 refine WC.loop1o 0 (fun (u : Unit) => []) (fun (u : Unit) => True) (fun (u : Unit) => 0) (()) (by repeat (first | exact Split.zero | apply Split.succ)) ?hinv1 (by repeat (first | exact Sub.nil | refine Sub.cons rfl (by first | rfl | (congr 1; omega) | assumption) ?_)) (fun _ h => h) ?_
 case hinv1 =>
  trivial
 intro u
 rintro -
 refine WC.seq ?_
 refine WC.region ?_
 refine WL.op rfl ?_
 refine OpW.nextM (kenc := vs) (venc := vbl) (m := m) (seen := []) rfl rfl (by repeat (first | assumption | exact mS | apply mT)) Z.T rfl rfl ?_; intro r hr
 refine WL.rd rfl rfl rfl (Rd.stepOn rfl rfl) ?_
 refine WL.nil ?_
 refine thenQ.normal ?_
 refine WC.seq ?_
 first | refine WC.ite rfl (fun hc1 => ?_) (fun hc1 => ?_) | refine WC.cond rfl (fun hc1 => ?_) (fun hc1 => ?_)
 ·
  obtain ⟨x, rfl⟩ := Option.isSome_iff_exists.1 hc1
  exact absurd hr.1 (by rw [hml0]; exact List.not_mem_nil)
 ·
  obtain rfl : r = none := by
   cases r with
   | some x => exact absurd rfl hc1
   | none => rfl
  refine WC.exit ?_
  refine thenQ.exit ?_
  refine loopQ1.exit ?_
  refine blockQ.exit ?_
  refine thenQ.normal ?_
  refine WC.seq ?_
  refine WC.region ?_
  refine WL.op rfl ?_
  refine OpW.alloc rfl I75 rfl Z.N rfl rfl ?_; intro b10
  refine WL.nil ?_
  refine thenQ.normal ?_
  refine WC.seq ?_
  refine WC.seq ?_
  refine WC.region ?_
  refine WL.rd rfl rfl rfl (Rd.move rfl rfl) ?_
  refine WL.op rfl ?_
  refine OpW.rangeM (kenc := vs) (venc := vbl) (m := m) M69 rfl rfl (by repeat (first | assumption | exact mS | apply mT)) rfl rfl ?_; intro it2
  refine WL.nil ?_
  refine thenQ.normal ?_
  refine WC.block ?_
  refine WC.pick [0, 6, 10, 44] (by repeat (first | exact Pick.nil | apply Pick.cons rfl)) ?_
  refine WC.loop1o 0 (fun (u : Unit) => []) (fun (u : Unit) => True) (fun (u : Unit) => 0) (()) (by repeat (first | exact Split.zero | apply Split.succ)) ?hinv3 (by repeat (first | exact Sub.nil | refine Sub.cons rfl (by first | rfl | (congr 1; omega) | assumption) ?_)) (fun _ h => h) ?_
  case hinv3 =>
   trivial
  intro u
  rintro -
  refine WC.seq ?_
  refine WC.region ?_
  refine WL.op rfl ?_
  refine OpW.nextM (kenc := vs) (venc := vbl) (m := m) (it := it2) (seen := []) rfl rfl (by repeat (first | assumption | exact mS | apply mT)) Z.T rfl rfl ?_; intro r2 hr2
  refine WL.rd rfl rfl rfl (Rd.stepOn rfl rfl) ?_
  refine WL.nil ?_
  refine thenQ.normal ?_
  refine WC.seq ?_
  first | refine WC.ite rfl (fun hc3 => ?_) (fun hc3 => ?_) | refine WC.cond rfl (fun hc3 => ?_) (fun hc3 => ?_)
  ·
   obtain ⟨x, rfl⟩ := Option.isSome_iff_exists.1 hc3
   exact absurd hr2.1 (by rw [hml0]; exact List.not_mem_nil)
  ·
   obtain rfl : r2 = none := by
    cases r2 with
    | some x => exact absurd rfl hc3
    | none => rfl
   refine WC.heap (fun w h => Sat.accNil (e := 9) (size := 1) (enc := SL.one vs) h) ?_
   refine WC.exit ?_
   refine thenQ.exit ?_
   refine loopQ1.exit ?_
   refine blockQ.exit ?_
   refine thenQ.normal ?_
   refine WC.seq ?_
   refine WC.region ?_
   refine WL.rd rfl rfl rfl (Rd.assign rfl rfl) ?_
   refine WL.nil ?_
   refine thenQ.normal ?_
   refine WC.seq ?_
   refine WC.block ?_
   refine WC.pick [12, 0, 6, 10] (by repeat (first | exact Pick.nil | apply Pick.cons rfl)) ?_
   refine WC.loop1o 1 (fun (u : Unit) => [(12, nilS)]) (fun (u : Unit) => True) (fun (u : Unit) => 0) (()) (by repeat (first | exact Split.zero | apply Split.succ)) ?hinv4 (by repeat (first | exact Sub.nil | refine Sub.cons rfl (by first | rfl | (congr 1; omega) | assumption) ?_)) (fun _ h => h) ?_
   case hinv4 =>
    trivial
   intro u
   rintro -
   refine WC.seq ?_
   refine WC.seq ?_
   refine WC.region ?_
   refine WL.rd rfl rfl rfl (Rd.row1 (b := b10) (off := 0) (u := nilS) rfl C75 rfl (by repeat (first | assumption | exact mS | apply mT)) rfl) ?_
   refine WL.rd rfl rfl rfl (Rd.len rfl rfl Try.underlying75) ?_
   refine WL.rd rfl rfl rfl (Rd.gtr rfl rfl rfl) ?_
   refine WL.nil ?_
   refine thenQ.normal ?_
   first | refine WC.ite rfl (fun hc5 => ?_) (fun hc5 => ?_) | refine WC.cond rfl (fun hc5 => ?_) (fun hc5 => ?_)
   ·
    exfalso; omega
   ·
    refine WC.exit ?_
    refine thenQ.exit ?_
    refine loopQ1.exit ?_
    refine blockQ.exit ?_
    refine thenQ.normal ?_
    refine WC.seq ?_
    refine WC.region ?_
    refine WL.rd rfl rfl rfl (Rd.move rfl rfl) ?_
    refine WL.rd rfl rfl rfl (Rd.assign rfl rfl) ?_
    refine WL.nil ?_
    refine thenQ.normal ?_
    refine WC.heap (R' := R) (O' := accT nilS [] :: O) (fun w h => OwnL.sat (by repeat (first | exact OwnL.refl | apply OwnL.take (by repeat (first | exact Take.head _ | apply Take.tail)) | apply OwnL.drop)) w (h.thin (SubL.mem (by repeat (first | exact SubL.refl | refine SubL.cons (by repeat (first | assumption | exact mS | apply mT)) ?_ | refine SubL.skip ?_))))) ?_
    refine WC.ret (Ret.one Try.results23 rfl ?_)
    exact hk nilS
set_option maxRecDepth 20000 in
set_option maxHeartbeats 8000000 in
theorem log1_spec {fs : List T} {fv : Value} {b bm : Nat} {gm : GoMap T Nv} (hb : garr b [.map (some bm)] ∈ R) (hgm : mapP vs ndV bm gm ∈ R) (hp : parP gm G ∈ R) (hMG : MapG gm G) (hc : Closed G) (hS : Small G) (hf : SlE (SL.one vs) fv fs ∈ R) (hsz : fs.length ≤ 500000)
  (hk : ∀ v out, Kahn G (Come G fs) [] out → POST v R (accT v out :: O)) :
  Fun Try.prog 23 #[.pointer (some ⟨b, 0, none⟩), fv] R O POST := by
 have hr := hS.rest fun _ => false
 have hn := hS.n
 have hAk : ∀ x, Come G fs x → x ∈ G.ks := fun x h => h.mem hc
 refine Fun.enter (l := [_, _]) Try.func23 rfl Try.ntmps23 rfl (L0 := [(0, _), (1, _)]) rfl ?_
 refine WC.seq ?_
 refine WC.region ?_
 refine WL.rd rfl rfl rfl (Rd.assign rfl rfl) ?_
 refine WL.nil ?_
 refine thenQ.normal ?_
 refine WC.seq ?_
 refine WC.region ?_
 refine WL.rd rfl rfl rfl (Rd.move rfl rfl) ?_
 refine WL.rd rfl rfl rfl (Rd.move rfl rfl) ?_
 refine WL.op rfl ?_
 refine OpW.call rfl rfl (by repeat (first | exact Evs.nil | apply Evs.cons rfl)) (by kernel_rfl) rfl rfl rfl ?_
 refine mark_spec (.some b bm gm rfl hb hgm hp hMG) hc hf (by omega) ?_; intro b18 m hm hml
 refine WL.heap (fun w h => Sat.shareM (m := m) Z.T h) ?_
 refine WL.rd rfl rfl rfl (Rd.assign rfl rfl) ?_
 refine WL.nil ?_
 refine thenQ.normal ?_
 refine WC.seq ?_
 refine WC.region ?_
 refine WL.op rfl ?_
 refine OpW.makeMap vs vi rfl rfl rfl ?_; intro b19
 refine WL.rd rfl rfl rfl (Rd.assign rfl rfl) ?_
 refine WL.nil ?_
 refine thenQ.normal ?_
 refine WC.seq ?_
 refine WC.seq ?_
 refine WC.region ?_
 refine WL.rd rfl rfl rfl (Rd.move rfl rfl) ?_
 refine WL.op rfl ?_
 refine OpW.rangeM (kenc := vs) (venc := vbl) (m := m) M69 rfl rfl (by repeat (first | assumption | exact mS | apply mT)) rfl rfl ?_; intro it
 refine WL.nil ?_
 refine thenQ.normal ?_
 refine WC.block ?_
 refine WC.pick [0, 5, 6, 21] (by repeat (first | exact Pick.nil | apply Pick.cons rfl)) ?_
 refine WC.loop3 0 (fun (xs : List T) (seen : List Nat) (cm : GoMap T Int) => []) (fun (xs : List T) (seen : List Nat) (cm : GoMap T Int) => iterC it b18 m.clock seen :: mapC vs vi b19 cm :: O) (fun (xs : List T) (seen : List Nat) (cm : GoMap T Int) => Came m xs seen ∧ CntIs cm (xs.flatMap G.pars)) (fun (xs : List T) (seen : List Nat) (cm : GoMap T Int) => m.l.length - xs.length) ([]) ([]) (GoMap.empty) (by repeat (first | exact Split.zero | apply Split.succ)) ?hinv1 (by repeat (first | exact Sub.nil | refine Sub.cons rfl (by first | rfl | (congr 1; omega) | assumption) ?_)) (fun _ h => h) ?_
 case hinv1 =>
  exact ⟨Came.start m, fun p => rfl⟩
 intro xs seen cm
 rintro ⟨i1, i2⟩
 refine WC.seq ?_
 refine WC.region ?_
 refine WL.op rfl ?_
 refine OpW.nextM (kenc := vs) (venc := vbl) (m := m) (seen := seen) rfl rfl (by repeat (first | assumption | exact mS | apply mT)) Z.T rfl rfl ?_; intro r hr
 refine WL.rd rfl rfl rfl (Rd.stepOn rfl rfl) ?_
 refine WL.nil ?_
 refine thenQ.normal ?_
 refine WC.seq ?_
 first | refine WC.ite rfl (fun hc1 => ?_) (fun hc1 => ?_) | refine WC.cond rfl (fun hc1 => ?_) (fun hc1 => ?_)
 ·
  obtain ⟨x, rfl⟩ := Option.isSome_iff_exists.1 hc1
  have hlt := i1.lt hr.1 hr.2
  have hxc : Come G fs x.1 := (hm.ks x.1).1 (GoMap.mem_ks.2 ⟨x.2.1, GoMap.get_iff.2 ⟨x.2.2, hr.1⟩⟩)
  have hfs := flat_small hS xs
  have hps := hS.p x.1
  obtain ⟨q, hq⟩ := (hMG.keys x.1).1 (hAk _ hxc)
  refine WC.skip ?_
  refine thenQ.normal ?_
  refine WC.block ?_
  refine WC.seq ?_
  refine WC.region ?_
  refine WL.op rfl ?_
  refine OpW.rd rfl rfl (Rd.entryM (kenc := vs) (venc := vbl) (m := m) (q := x) (seen := seen) rfl rfl (by repeat (first | assumption | exact mS | apply mT)) (by repeat (first | assumption | exact mS | apply mT)) hr.1 rfl) ?_
  refine WL.rd rfl rfl rfl (Rd.extract rfl rfl rfl) ?_
  refine WL.rd rfl rfl rfl (Rd.assign rfl rfl) ?_
  refine WL.nil ?_
  refine thenQ.normal ?_
  refine WC.seq ?_
  refine WC.region ?_
  refine WL.rd rfl rfl rfl (Rd.move rfl rfl) ?_
  refine WL.rd rfl rfl rfl (Rd.nilc rfl rfl) ?_
  refine WL.rd rfl rfl rfl ((by first | exact Rd.field rfl F59_0 rfl rfl | exact Rd.fieldE rfl F59_0 rfl (by repeat (first | assumption | exact mS | apply mT)) (by omega) | exact Rd.fieldA rfl F59_0 rfl (by repeat (first | assumption | exact mS | apply mT)) (by omega))) ?_
  refine WL.rd rfl rfl rfl (Rd.getGl rfl C57 rfl (by repeat (first | assumption | exact mS | apply mT)) rfl) ?_
  refine WL.rd rfl rfl rfl (Rd.move rfl rfl) ?_
  refine WL.rd rfl rfl rfl (Rd.lookupR (k := x.1) M57 K9 rfl rfl rfl (venc := ndV) (m := gm) (by repeat (first | assumption | exact mS | apply mT)) rfl) ?_
  refine WL.say 31 (u := .agg #[vs q.1, slv q.2.1, vi q.2.2]) rfl (by rw [hq]; rfl) ?_
  refine WL.rd rfl rfl rfl (Rd.part (ft := 0) rfl Try.underlying30 rfl C28 rfl rfl rfl) ?_
  refine WL.heap (fun w h => h.weaken (p := parP gm G) (q := SlE (SL.one vs) (slv q.2.1) (G.pars x.1)) (by repeat (first | assumption | exact mS | apply mT)) (fun w hw => hw _ _ hq)) ?_
  refine WL.rd rfl rfl rfl (Rd.lenE (enc := SL.one vs) (xs := G.pars x.1) rfl rfl Try.underlying28 (by repeat (first | assumption | exact mS | apply mT))) ?_
  refine WL.rd rfl rfl rfl (Rd.move rfl rfl) ?_
  refine WL.nil ?_
  refine thenQ.normal ?_
  refine WC.block ?_
  refine WC.pick [34, 0, 5, 6, 21, 32, 33] (by repeat (first | exact Pick.nil | apply Pick.cons rfl)) ?_
  refine WC.loop2 1 (fun (k : Nat) (cm2 : GoMap T Int) => [(34, vi k)]) (fun (k : Nat) (cm2 : GoMap T Int) => iterC it b18 m.clock (seen ++ [x.2.2]) :: mapC vs vi b19 cm2 :: O) (fun (k : Nat) (cm2 : GoMap T Int) => k ≤ (G.pars x.1).length ∧ CntIs cm2 (xs.flatMap G.pars ++ (G.pars x.1).take k)) (fun (k : Nat) (cm2 : GoMap T Int) => (G.pars x.1).length - k) (0) (cm) (by repeat (first | exact Split.zero | apply Split.succ)) ?hinv2 (by repeat (first | exact Sub.nil | refine Sub.cons rfl (by first | rfl | (congr 1; omega) | assumption) ?_)) (fun _ h => h) ?_
  case hinv2 =>
   exact ⟨Nat.zero_le _, by rw [List.take_zero, List.append_nil]; exact i2⟩
  intro k cm2
  rintro ⟨j1, j2⟩
  refine WC.seq ?_
  refine WC.region ?_
  refine WL.rd rfl rfl rfl (Rd.lss rfl rfl rfl) ?_
  refine WL.nil ?_
  refine thenQ.normal ?_
  refine WC.seq ?_
  first | refine WC.ite rfl (fun hc2 => ?_) (fun hc2 => ?_) | refine WC.cond rfl (fun hc2 => ?_) (fun hc2 => ?_)
  ·
   have hcl := List.count_le_length (a := (G.pars x.1)[k]!) (l := xs.flatMap G.pars ++ (G.pars x.1).take k)
   rw [List.length_append, List.length_take] at hcl
   have hml1 := i1.len.1
   have hnx := j2.next (p := (G.pars x.1)[k]!)
   rw [List.append_assoc, ← take_snoc' (by omega)] at hnx
   refine WC.skip ?_
   refine thenQ.normal ?_
   refine WC.seq ?_
   refine WC.block ?_
   refine WC.seq ?_
   refine WC.region ?_
   refine WL.rd rfl rfl rfl (Rd.idx1 (enc := SL.one vs) (xs := G.pars x.1) (k := k) rfl S28 rfl rfl rfl (by repeat (first | assumption | exact mS | apply mT)) (by omega)) ?_
   refine WL.rd rfl rfl rfl (Rd.get (g := vs) (xs := G.pars x.1) (k := k) (a := (G.pars x.1)[k]!) rfl C9 rfl (by repeat (first | assumption | exact mS | apply mT)) (get!_of_lt (by omega))) ?_
   refine WL.rd rfl rfl rfl (Rd.assign rfl rfl) ?_
   refine WL.nil ?_
   refine thenQ.normal ?_
   refine WC.region ?_
   refine WL.rd rfl rfl rfl (Rd.move rfl rfl) ?_
   refine WL.rd rfl rfl rfl (Rd.move rfl rfl) ?_
   refine WL.rd rfl rfl rfl (Rd.lookup (k := (G.pars x.1)[k]!) M74 K9 rfl rfl rfl (venc := vi) (m := cm2) (by repeat (first | assumption | exact mS | apply mT)) rfl) ?_
   refine WL.say 40 (u := vi ((xs.flatMap G.pars ++ (G.pars x.1).take k).count (G.pars x.1)[k]! : Nat)) rfl (by rw [intAt, j2]) ?_
   refine WL.rd rfl rfl rfl (Rd.add rfl rfl rfl (by omega)) ?_
   refine WL.op rfl ?_
   refine OpW.mapUpdate (k := (G.pars x.1)[k]!) (v := ((xs.flatMap G.pars ++ (G.pars x.1).take k).count (G.pars x.1)[k]! : Int) + 1) M74 K9 rfl rfl rfl rfl Z.T rfl rfl rfl ?_
   refine WL.nil ?_
   refine blockQ.normal ?_
   refine thenQ.normal ?_
   refine WC.region ?_
   refine WL.rd rfl rfl rfl (Rd.add rfl rfl rfl (by omega)) ?_
   refine WL.rd rfl rfl rfl (Rd.move rfl rfl) ?_
   refine WL.nil ?_
   exact loopQ2.mk (k + 1) (cm2.set (G.pars x.1)[k]! (((xs.flatMap G.pars ++ (G.pars x.1).take k).count (G.pars x.1)[k]! : Int) + 1)) ⟨by omega, hnx⟩ (by omega) (by repeat (first | exact Sub.nil | refine Sub.cons rfl (by first | rfl | (congr 1; omega) | assumption) ?_)) (fun w h => OwnL.sat (by repeat (first | exact OwnL.refl | apply OwnL.take (by repeat (first | exact Take.head _ | apply Take.tail)) | apply OwnL.drop)) w (h.thin (SubL.mem (by repeat (first | exact SubL.refl | refine SubL.cons (by repeat (first | assumption | exact mS | apply mT)) ?_ | refine SubL.skip ?_)))))
  ·
   obtain rfl : k = (G.pars x.1).length := by omega
   rw [List.take_length] at j2
   refine WC.exit ?_
   refine thenQ.exit ?_
   refine loopQ2.exit ?_
   refine blockQ.exit ?_
   refine blockQ.normal ?_
   exact loopQ3.mk (xs ++ [x.1]) (seen ++ [x.2.2]) cm2 ⟨i1.step hr.1 hr.2, by rw [List.flatMap_append, List.flatMap_singleton]; exact j2⟩ (by rw [List.length_append, List.length_singleton]; omega) (by repeat (first | exact Sub.nil | refine Sub.cons rfl (by first | rfl | (congr 1; omega) | assumption) ?_)) (fun w h => OwnL.sat (by repeat (first | exact OwnL.refl | apply OwnL.take (by repeat (first | exact Take.head _ | apply Take.tail)) | apply OwnL.drop)) w (h.thin (SubL.mem (by repeat (first | exact SubL.refl | refine SubL.cons (by repeat (first | assumption | exact mS | apply mT)) ?_ | refine SubL.skip ?_)))))
 ·
  obtain rfl : r = none := by
   cases r with
   | some x => exact absurd rfl hc1
   | none => rfl
  have hall := i1.all hr
  have hal : xs.Nodup := hall.nodup_iff.2 m.keys
  have ha : ∀ x, x ∈ xs ↔ Come G fs x := fun x => hall.mem_iff.trans (hm.ks x)
  have hxl : xs.length ≤ 1000 := by have := i1.len.1; omega
  have hfs := flat_small hS xs
  refine WC.exit ?_
  refine thenQ.exit ?_
  refine loopQ3.exit ?_
  refine blockQ.exit ?_
  refine thenQ.normal ?_
  refine WC.seq ?_
  refine WC.region ?_
  refine WL.op rfl ?_
  refine OpW.alloc rfl I75 rfl Z.N rfl rfl ?_; intro b10
  refine WL.nil ?_
  refine thenQ.normal ?_
  refine WC.seq ?_
  refine WC.seq ?_
  refine WC.region ?_
  refine WL.rd rfl rfl rfl (Rd.move rfl rfl) ?_
  refine WL.op rfl ?_
  refine OpW.rangeM (kenc := vs) (venc := vbl) (m := m) M69 rfl rfl (by repeat (first | assumption | exact mS | apply mT)) rfl rfl ?_; intro it2
  refine WL.heap (fun w h => Sat.accNil (e := 30) (size := 3) (enc := encN) h) ?_
  refine WL.nil ?_
  refine thenQ.normal ?_
  refine WC.block ?_
  refine WC.pick [0, 6, 10, 44] (by repeat (first | exact Pick.nil | apply Pick.cons rfl)) ?_
  refine WC.loop4 0 (fun (ys : List T) (seen2 : List Nat) (H : List Nv) (sv : Value) => []) (fun (ys : List T) (seen2 : List Nat) (H : List Nv) (sv : Value) => iterC it2 b18 m.clock seen2 :: rowW b10 sv :: accS sv H :: mapC vs vi b19 cm :: O) (fun (ys : List T) (seen2 : List Nat) (H : List Nv) (sv : Value) => Came m ys seen2 ∧ Hp ndLt H ∧ Ready G gm xs ys H) (fun (ys : List T) (seen2 : List Nat) (H : List Nv) (sv : Value) => m.l.length - ys.length) ([]) ([]) ([]) (nilS) (by repeat (first | exact Split.zero | apply Split.succ)) ?hinv3 (by repeat (first | exact Sub.nil | refine Sub.cons rfl (by first | rfl | (congr 1; omega) | assumption) ?_)) (fun w h => OwnL.sat (by repeat (first | exact OwnL.refl | apply OwnL.take (by repeat (first | exact Take.head _ | apply Take.tail)) | apply OwnL.drop)) w (h.thin (SubL.mem (by repeat (first | exact SubL.refl | refine SubL.cons (by repeat (first | assumption | exact mS | apply mT)) ?_ | refine SubL.skip ?_))))) ?_
  case hinv3 =>
   exact ⟨Came.start m, hp_nil, ⟨List.nodup_nil, fun _ h => absurd h List.not_mem_nil, fun x => by simp⟩⟩
  intro ys seen2 H sv
  rintro ⟨k1, k2, k3⟩
  refine WC.seq ?_
  refine WC.region ?_
  refine WL.op rfl ?_
  refine OpW.nextM (kenc := vs) (venc := vbl) (m := m) (it := it2) (seen := seen2) rfl rfl (by repeat (first | assumption | exact mS | apply mT)) Z.T rfl rfl ?_; intro r2 hr2
  refine WL.rd rfl rfl rfl (Rd.stepOn rfl rfl) ?_
  refine WL.nil ?_
  refine thenQ.normal ?_
  refine WC.seq ?_
  first | refine WC.ite rfl (fun hc3 => ?_) (fun hc3 => ?_) | refine WC.cond rfl (fun hc3 => ?_) (fun hc3 => ?_)
  ·
   obtain ⟨x, rfl⟩ := Option.isSome_iff_exists.1 hc3
   have hlt := k1.lt hr2.1 hr2.2
   have hxc : Come G fs x.1 := (hm.ks x.1).1 (GoMap.mem_ks.2 ⟨x.2.1, GoMap.get_iff.2 ⟨x.2.2, hr2.1⟩⟩)
   obtain ⟨q, hq⟩ := (hMG.keys x.1).1 (hAk _ hxc)
   have hq1 := (hMG.nd _ _ hq).1
   have hHl := k3.size
   have hyl := k1.len.1
   refine WC.skip ?_
   refine thenQ.normal ?_
   refine WC.block ?_
   refine WC.seq ?_
   refine WC.region ?_
   refine WL.op rfl ?_
   refine OpW.rd rfl rfl (Rd.entryM (kenc := vs) (venc := vbl) (m := m) (it := it2) (q := x) (seen := seen2) rfl rfl (by repeat (first | assumption | exact mS | apply mT)) (by repeat (first | assumption | exact mS | apply mT)) hr2.1 rfl) ?_
   refine WL.rd rfl rfl rfl (Rd.extract rfl rfl rfl) ?_
   refine WL.rd rfl rfl rfl (Rd.assign rfl rfl) ?_
   refine WL.nil ?_
   refine thenQ.normal ?_
   refine WC.seq ?_
   refine WC.region ?_
   refine WL.rd rfl rfl rfl (Rd.move rfl rfl) ?_
   refine WL.rd rfl rfl rfl (Rd.move rfl rfl) ?_
   refine WL.rd rfl rfl rfl (Rd.lookup (k := x.1) M74 K9 rfl rfl rfl (venc := vi) (m := cm) (by repeat (first | assumption | exact mS | apply mT)) rfl) ?_
   refine WL.say 51 (u := vi ((xs.flatMap G.pars).count x.1 : Nat)) rfl (by rw [intAt, i2]) ?_
   refine WL.rd rfl rfl rfl (Rd.eql rfl rfl rfl) ?_
   refine WL.nil ?_
   refine thenQ.normal ?_
   first | refine WC.ite rfl (fun hc4 => ?_) (fun hc4 => ?_) | refine WC.cond rfl (fun hc4 => ?_) (fun hc4 => ?_)
   ·
    refine WC.region ?_
    refine WL.rd rfl rfl rfl (Rd.iface rfl Try.underlying77 rfl rfl) ?_
    refine WL.rd rfl rfl rfl (Rd.move rfl rfl) ?_
    refine WL.rd rfl rfl rfl (Rd.nilc rfl rfl) ?_
    refine WL.rd rfl rfl rfl ((by first | exact Rd.field rfl F59_0 rfl rfl | exact Rd.fieldE rfl F59_0 rfl (by repeat (first | assumption | exact mS | apply mT)) (by omega) | exact Rd.fieldA rfl F59_0 rfl (by repeat (first | assumption | exact mS | apply mT)) (by omega))) ?_
    refine WL.rd rfl rfl rfl (Rd.getGl rfl C57 rfl (by repeat (first | assumption | exact mS | apply mT)) rfl) ?_
    refine WL.rd rfl rfl rfl (Rd.move rfl rfl) ?_
    refine WL.rd rfl rfl rfl (Rd.lookupR (k := x.1) M57 K9 rfl rfl rfl (venc := ndV) (m := gm) (by repeat (first | assumption | exact mS | apply mT)) rfl) ?_
    refine WL.say 59 (u := ndV q) rfl (by rw [hq]; rfl) ?_
    refine WL.rd rfl rfl rfl (Rd.iface rfl Try.underlying30 rfl rfl) ?_
    refine WL.op rfl ?_
    refine OpW.call rfl rfl (by repeat (first | exact Evs.nil | apply Evs.cons rfl)) (by kernel_rfl) rfl rfl rfl ?_
    refine Fun.heap (R' := mapP vs vbl b18 m :: R) (O' := rowW b10 sv :: accS sv H :: iterC it2 b18 m.clock (seen2 ++ [x.2.2]) :: mapC vs vi b19 cm :: O) (fun w h => OwnL.sat (by repeat (first | exact OwnL.refl | apply OwnL.take (by repeat (first | exact Take.head _ | apply Take.tail)) | apply OwnL.drop)) w (h.thin (SubL.mem (by repeat (first | exact SubL.refl | refine SubL.cons (by repeat (first | assumption | exact mS | apply mT)) ?_ | refine SubL.skip ?_))))) ?_
    refine hpush_spec (x := q) (by omega) k2 ?_; intro sv' H2 hp2 hh2
    refine WL.nil ?_
    refine blockQ.normal ?_
    exact loopQ4.mk (ys ++ [x.1]) (seen2 ++ [x.2.2]) H2 sv' ⟨k1.step hr2.1 hr2.2, hh2, k3.push (by omega) (k1.fresh hr2.1 hr2.2) hq hq1 hp2⟩ (by rw [List.length_append, List.length_singleton]; omega) (by repeat (first | exact Sub.nil | refine Sub.cons rfl (by first | rfl | (congr 1; omega) | assumption) ?_)) (fun w h => OwnL.sat (by repeat (first | exact OwnL.refl | apply OwnL.take (by repeat (first | exact Take.head _ | apply Take.tail)) | apply OwnL.drop)) w (h.thin (SubL.mem (by repeat (first | exact SubL.refl | refine SubL.cons (by repeat (first | assumption | exact mS | apply mT)) ?_ | refine SubL.skip ?_)))))
   ·
    refine WC.skip ?_
    refine blockQ.normal ?_
    exact loopQ4.mk (ys ++ [x.1]) (seen2 ++ [x.2.2]) H sv ⟨k1.step hr2.1 hr2.2, k2, k3.skip (by omega)⟩ (by rw [List.length_append, List.length_singleton]; omega) (by repeat (first | exact Sub.nil | refine Sub.cons rfl (by first | rfl | (congr 1; omega) | assumption) ?_)) (fun w h => OwnL.sat (by repeat (first | exact OwnL.refl | apply OwnL.take (by repeat (first | exact Take.head _ | apply Take.tail)) | apply OwnL.drop)) w (h.thin (SubL.mem (by repeat (first | exact SubL.refl | refine SubL.cons (by repeat (first | assumption | exact mS | apply mT)) ?_ | refine SubL.skip ?_)))))
  ·
   obtain rfl : r2 = none := by
    cases r2 with
    | some x => exact absurd rfl hc3
    | none => rfl
   have hall2 := k1.all hr2
   have hlog := k3.log ha (fun x => hall2.mem_iff.trans (hm.ks x))
   refine WC.heap (fun w h => Sat.accNil (e := 9) (size := 1) (enc := SL.one vs) h) ?_
   refine WC.exit ?_
   refine thenQ.exit ?_
   refine loopQ4.exit ?_
   refine blockQ.exit ?_
   refine thenQ.normal ?_
   refine WC.seq ?_
   refine WC.region ?_
   refine WL.rd rfl rfl rfl (Rd.assign rfl rfl) ?_
   refine WL.nil ?_
   refine thenQ.normal ?_
   refine WC.seq ?_
   refine WC.block ?_
   refine WC.pick [12, 0, 6, 10] (by repeat (first | exact Pick.nil | apply Pick.cons rfl)) ?_
   refine WC.loop5 1 (fun (done : List T) (ov : Value) (G4 : List Nv) (s4 : Value) (c4 : GoMap T Int) => [(12, ov)]) (fun (done : List T) (ov : Value) (G4 : List Nv) (s4 : Value) (c4 : GoMap T Int) => accT ov done :: rowW b10 s4 :: accS s4 G4 :: mapC vs vi b19 c4 :: O) (fun (done : List T) (ov : Value) (G4 : List Nv) (s4 : Value) (c4 : GoMap T Int) => LogAt G (Come G fs) gm done G4 ∧ Hp ndLt G4 ∧ (∀ p, (c4.get p).getD 0 = (rem G xs done p : Int)) ∧ ∀ o, Kahn G (Come G fs) done o → Kahn G (Come G fs) [] o) (fun (done : List T) (ov : Value) (G4 : List Nv) (s4 : Value) (c4 : GoMap T Int) => xs.length - done.length) ([]) (nilS) (H) (sv) (cm) (by repeat (first | exact Split.zero | apply Split.succ)) ?hinv4 (by repeat (first | exact Sub.nil | refine Sub.cons rfl (by first | rfl | (congr 1; omega) | assumption) ?_)) (fun w h => OwnL.sat (by repeat (first | exact OwnL.refl | apply OwnL.take (by repeat (first | exact Take.head _ | apply Take.tail)) | apply OwnL.drop)) w (h.thin (SubL.mem (by repeat (first | exact SubL.refl | refine SubL.cons (by repeat (first | assumption | exact mS | apply mT)) ?_ | refine SubL.skip ?_))))) ?_
   case hinv4 =>
    exact ⟨hlog, k2, fun p => by rw [rem_nil]; exact i2 p, fun _ h => h⟩
   intro done ov G4 s4 c4
   rintro ⟨l1, l2, l3, l4⟩
   refine WC.seq ?_
   refine WC.seq ?_
   refine WC.region ?_
   refine WL.rd rfl rfl rfl (Rd.row1 (b := b10) (off := 0) (u := s4) rfl C75 rfl (by repeat (first | assumption | exact mS | apply mT)) rfl) ?_
   refine WL.rd rfl rfl rfl (Rd.lenA (enc := encN) (xs := G4) rfl rfl Try.underlying75 (by repeat (first | assumption | exact mS | apply mT))) ?_
   refine WL.rd rfl rfl rfl (Rd.gtr rfl rfl rfl) ?_
   refine WL.nil ?_
   refine thenQ.normal ?_
   first | refine WC.ite rfl (fun hc5 => ?_) (fun hc5 => ?_) | refine WC.cond rfl (fun hc5 => ?_) (fun hc5 => ?_)
   ·
    have hG0 : 0 < G4.length := by omega
    have hGl := l1.size hAk
    have hfirst := l1.first hMG (get!_mem hG0) (fun t ht => l2.least ndOrd ht)
    have hnq := l1.hq _ (get!_mem hG0)
    have hdl : done.length < xs.length := by
     have h1 : (done ++ [G4[0]!.1]).Nodup := by
      rw [List.nodup_append]
      exact ⟨l1.dn, by simp, fun a ha b hb => by rw [List.mem_singleton.1 hb]; rintro rfl; exact hfirst.1.2.1 ha⟩
     have := nodup_len' h1 (l' := xs) (fun y hy => by
      rcases List.mem_append.1 hy with g | g
      ·
       exact (ha y).2 (l1.sub y g)
      ·
       rw [List.mem_singleton.1 g]; exact (ha _).2 hfirst.1.1)
     rw [List.length_append] at this
     simp at this; omega
    refine WC.skip ?_
    refine thenQ.normal ?_
    refine WC.block ?_
    refine WC.seq ?_
    refine WC.region ?_
    refine WL.rd rfl rfl rfl (Rd.iface rfl Try.underlying77 rfl rfl) ?_
    refine WL.op rfl ?_
    refine OpW.call rfl rfl (by repeat (first | exact Evs.nil | apply Evs.cons rfl)) (by kernel_rfl) rfl rfl rfl ?_
    refine Fun.heap (R' := mapP vs vbl b18 m :: R) (O' := rowW b10 s4 :: accS s4 G4 :: accT ov done :: mapC vs vi b19 c4 :: O) (fun w h => OwnL.sat (by repeat (first | exact OwnL.refl | apply OwnL.take (by repeat (first | exact Take.head _ | apply Take.tail)) | apply OwnL.drop)) w (h.thin (SubL.mem (by repeat (first | exact SubL.refl | refine SubL.cons (by repeat (first | assumption | exact mS | apply mT)) ?_ | refine SubL.skip ?_))))) ?_
    refine hpop_spec (xs := G4) (by omega) hG0 l2 ?_; intro s5 H5 hH5 hh5
    have hin := l1.take hal ha hH5
    generalize G4[0]! = n at *
    have hnA := hfirst.1.1
    have hps := hS.p n.1
    have hstep : ∀ p, rem G xs done p = (G.pars n.1).count p + rem G xs (done ++ [n.1]) p := fun p => rem_step hal ((ha n.1).2 hnA) hfirst.1.2.1
    refine WL.rd rfl rfl rfl (Rd.assertT rfl Try.underlying30 rfl rfl) ?_
    refine WL.op rfl ?_
    refine OpW.alloc rfl I30 rfl Z.N rfl rfl ?_; intro b13
    refine WL.op rfl ?_
    refine OpW.storeS rfl G30 rfl rfl Z.N Z.T rfl rfl Z.N rfl ?_
    refine WL.nil ?_
    refine thenQ.normal ?_
    refine WC.seq ?_
    refine WC.region ?_
    refine WL.rd rfl rfl rfl (Rd.move rfl rfl) ?_
    refine WL.rd rfl rfl rfl ((by first | exact Rd.field rfl F30_0 rfl rfl | exact Rd.fieldE rfl F30_0 rfl (by repeat (first | assumption | exact mS | apply mT)) (by omega) | exact Rd.fieldA rfl F30_0 rfl (by repeat (first | assumption | exact mS | apply mT)) (by omega))) ?_
    refine WL.rd rfl rfl rfl (Rd.row1 (b := b13) (off := 0) (u := vs n.1) rfl C9 rfl (by repeat (first | assumption | exact mS | apply mT)) rfl) ?_
    refine WL.op rfl ?_
    refine OpW.buildSl (ps := [(0, _)]) rfl S28 (by repeat (first | exact Evs.nil | apply Evs.cons rfl)) rfl rfl (by repeat (first | exact CellsOf.nil | apply CellsOf.cons rfl)) (by kernel_rfl) rfl rfl rfl ?_; intro b71
    have hdl2 : done.length ≤ 1000 := by omega
    refine WL.op rfl ?_
    refine OpW.appendRow (enc := SL.one vs) rfl S28 rfl rfl Z.T Z.T [n.1] rfl (by rfl) rfl (by intro x; first | rfl | (cases x; rfl) | (rcases x with ⟨_, _, _⟩; rfl) | (rcases x with ⟨_, _, _, _⟩; rfl)) (by intro x; first | rfl | (cases x; rfl) | (rcases x with ⟨_, _, _⟩; rfl) | (rcases x with ⟨_, _, _, _⟩; rfl)) (by first | assumption | exact ⟨by simp only [maxLen, List.length_append, List.length_nil, List.length_cons, List.length_drop, List.length_take, List.length_map]; omega, by first | omega | (simp only [List.length_append, List.length_nil, List.length_cons, List.length_drop, List.length_take, List.length_map]; omega)⟩) rfl rfl ?_; intro v72 hv72
    refine WL.rd rfl rfl rfl (Rd.assign rfl rfl) ?_
    refine WL.nil ?_
    refine thenQ.normal ?_
    refine WC.seq ?_
    refine WC.region ?_
    refine WL.rd rfl rfl rfl ((by first | exact Rd.field rfl F30_1 rfl rfl | exact Rd.fieldE rfl F30_1 rfl (by repeat (first | assumption | exact mS | apply mT)) (by omega) | exact Rd.fieldA rfl F30_1 rfl (by repeat (first | assumption | exact mS | apply mT)) (by omega))) ?_
    refine WL.rd rfl rfl rfl (Rd.row1 (b := b13) (off := 1) (u := slv n.2.1) rfl C28 rfl (by repeat (first | assumption | exact mS | apply mT)) rfl) ?_
    refine WL.heap (fun w h => h.weaken (p := parP gm G) (q := SlE (SL.one vs) (slv n.2.1) (G.pars n.1)) (by repeat (first | assumption | exact mS | apply mT)) (fun w hw => hw _ _ hnq)) ?_
    refine WL.rd rfl rfl rfl (Rd.lenE (enc := SL.one vs) (xs := G.pars n.1) rfl rfl Try.underlying28 (by repeat (first | assumption | exact mS | apply mT))) ?_
    refine WL.rd rfl rfl rfl (Rd.move rfl rfl) ?_
    refine WL.nil ?_
    refine thenQ.normal ?_
    refine WC.block ?_
    refine WC.pick [76, 0, 6, 10, 12, 74, 75] (by repeat (first | exact Pick.nil | apply Pick.cons rfl)) ?_
    refine WC.loop4 1 (fun (k : Nat) (H6 : List Nv) (s6 : Value) (c6 : GoMap T Int) => [(76, vi k)]) (fun (k : Nat) (H6 : List Nv) (s6 : Value) (c6 : GoMap T Int) => accT v72 (done ++ [n.1]) :: rowW b10 s6 :: accS s6 H6 :: mapC vs vi b19 c6 :: O) (fun (k : Nat) (H6 : List Nv) (s6 : Value) (c6 : GoMap T Int) => k ≤ (G.pars n.1).length ∧ LogIn G (Come G fs) gm xs done n.1 k H6 ∧ Hp ndLt H6 ∧ ∀ p, (c6.get p).getD 0 = ((((G.pars n.1).drop k).count p + rem G xs (done ++ [n.1]) p : Nat) : Int)) (fun (k : Nat) (H6 : List Nv) (s6 : Value) (c6 : GoMap T Int) => (G.pars n.1).length - k) (0) (H5) (s5) (c4) (by repeat (first | exact Split.zero | apply Split.succ)) ?hinv5 (by repeat (first | exact Sub.nil | refine Sub.cons rfl (by first | rfl | (congr 1; omega) | assumption) ?_)) (fun w h => OwnL.sat (by repeat (first | exact OwnL.refl | apply OwnL.take (by repeat (first | exact Take.head _ | apply Take.tail)) | apply OwnL.drop)) w (h.thin (SubL.mem (by repeat (first | exact SubL.refl | refine SubL.cons (by repeat (first | assumption | exact mS | apply mT)) ?_ | refine SubL.skip ?_))))) ?_
    case hinv5 =>
     exact ⟨Nat.zero_le _, hin, hh5, fun p => by rw [l3, hstep, List.drop_zero]⟩
    intro k H6 s6 c6
    rintro ⟨n1, n2, n3, n4⟩
    refine WC.seq ?_
    refine WC.region ?_
    refine WL.rd rfl rfl rfl (Rd.lss rfl rfl rfl) ?_
    refine WL.nil ?_
    refine thenQ.normal ?_
    refine WC.seq ?_
    first | refine WC.ite rfl (fun hc6 => ?_) (fun hc6 => ?_) | refine WC.cond rfl (fun hc6 => ?_) (fun hc6 => ?_)
    ·
     obtain ⟨p, hpp⟩ : ∃ p, (G.pars n.1)[k]! = p := ⟨_, rfl⟩
     have hpm : p ∈ G.pars n.1 := by rw [← hpp]; exact get!_mem (by omega)
     have hpA : Come G fs p := hnA.path (.step (hAk _ hnA) hpm (.refl _))
     have hpd : p ∉ done ++ [n.1] := fun hm => by
      rcases List.mem_append.1 hm with g | g
      ·
       exact l1.ord p g n.1 hnA hfirst.1.2.1 hpm
      ·
       rw [List.mem_singleton.1 g] at hpm
       exact hfirst.1.2.2 n.1 hnA hfirst.1.2.1 hpm
     have hdr : (G.pars n.1).drop k = p :: (G.pars n.1).drop (k + 1) := by rw [← hpp]; exact drop_get (by omega)
     have hck : ((G.pars n.1).drop k).count p = ((G.pars n.1).drop (k + 1)).count p + 1 := by rw [hdr, List.count_cons_self]
     have hcl := List.count_le_length (a := p) (l := (G.pars n.1).drop k)
     rw [List.length_drop] at hcl
     have hrl : rem G xs (done ++ [n.1]) p ≤ 200000 := by
      have h1 := hstep p
      have h2 : rem G xs done p ≤ 200000 := by
       have := List.count_le_length (a := p) (l := (xs.filter fun c => decide (c ∉ done)).flatMap G.pars)
       have h3 := flat_small hS (xs.filter fun c => decide (c ∉ done))
       have h4 : (xs.filter fun c => decide (c ∉ done)).length ≤ xs.length := List.length_filter_le _ _
       unfold rem; omega
      omega
     obtain ⟨q, hq⟩ := (hMG.keys p).1 (hAk _ hpA)
     have hq1 := (hMG.nd _ _ hq).1
     have hHl := n2.size hAk
     have hc6 : ∀ y, ((c6.set p (((((G.pars n.1).drop k).count p + rem G xs (done ++ [n.1]) p : Nat) : Int) - 1)).get y).getD 0 = ((((G.pars n.1).drop (k + 1)).count y + rem G xs (done ++ [n.1]) y : Nat) : Int) := fun y => by
      rw [GoMap.get_set]
      by_cases e : y = p
      ·
       subst e; rw [if_pos rfl, Option.getD_some]; omega
      ·
       rw [if_neg e, n4, hdr, List.count_cons_of_ne (fun g => e g.symm)]
     refine WC.skip ?_
     refine thenQ.normal ?_
     refine WC.seq ?_
     refine WC.block ?_
     refine WC.seq ?_
     refine WC.region ?_
     refine WL.rd rfl rfl rfl (Rd.idx1 (enc := SL.one vs) (xs := G.pars n.1) (k := k) rfl S28 rfl rfl rfl (by repeat (first | assumption | exact mS | apply mT)) (by omega)) ?_
     refine WL.rd rfl rfl rfl (Rd.get (g := vs) (xs := G.pars n.1) (k := k) (a := p) rfl C9 rfl (by repeat (first | assumption | exact mS | apply mT)) (by rw [← hpp]; exact get!_of_lt (by omega))) ?_
     refine WL.rd rfl rfl rfl (Rd.assign rfl rfl) ?_
     refine WL.nil ?_
     refine thenQ.normal ?_
     refine WC.seq ?_
     refine WC.region ?_
     refine WL.rd rfl rfl rfl (Rd.move rfl rfl) ?_
     refine WL.rd rfl rfl rfl (Rd.move rfl rfl) ?_
     refine WL.rd rfl rfl rfl (Rd.lookup (k := p) M74 K9 rfl rfl rfl (venc := vi) (m := c6) (by repeat (first | assumption | exact mS | apply mT)) rfl) ?_
     refine WL.say 82 (u := vi (((G.pars n.1).drop k).count p + rem G xs (done ++ [n.1]) p : Nat)) rfl (by rw [intAt, n4]) ?_
     refine WL.rd rfl rfl rfl (Rd.sub rfl rfl rfl (by omega)) ?_
     refine WL.op rfl ?_
     refine OpW.mapUpdate (k := p) (v := ((((G.pars n.1).drop k).count p + rem G xs (done ++ [n.1]) p : Nat) : Int) - 1) M74 K9 rfl rfl rfl rfl Z.T rfl rfl rfl ?_
     refine WL.nil ?_
     refine thenQ.normal ?_
     refine WC.seq ?_
     refine WC.region ?_
     refine WL.rd rfl rfl rfl (Rd.move rfl rfl) ?_
     refine WL.rd rfl rfl rfl (Rd.move rfl rfl) ?_
     refine WL.rd rfl rfl rfl (Rd.lookup (k := p) M74 K9 rfl rfl rfl (venc := vi) (m := c6.set p (((((G.pars n.1).drop k).count p + rem G xs (done ++ [n.1]) p : Nat) : Int) - 1)) (by repeat (first | assumption | exact mS | apply mT)) rfl) ?_
     refine WL.say 86 (u := vi (((G.pars n.1).drop (k + 1)).count p + rem G xs (done ++ [n.1]) p : Nat)) rfl (by rw [intAt, hc6]) ?_
     refine WL.rd rfl rfl rfl (Rd.eql rfl rfl rfl) ?_
     refine WL.nil ?_
     refine thenQ.normal ?_
     first | refine WC.ite rfl (fun hc7 => ?_) (fun hc7 => ?_) | refine WC.cond rfl (fun hc7 => ?_) (fun hc7 => ?_)
     ·
      refine WC.region ?_
      refine WL.rd rfl rfl rfl (Rd.iface rfl Try.underlying77 rfl rfl) ?_
      refine WL.rd rfl rfl rfl (Rd.move rfl rfl) ?_
      refine WL.rd rfl rfl rfl (Rd.nilc rfl rfl) ?_
      refine WL.rd rfl rfl rfl ((by first | exact Rd.field rfl F59_0 rfl rfl | exact Rd.fieldE rfl F59_0 rfl (by repeat (first | assumption | exact mS | apply mT)) (by omega) | exact Rd.fieldA rfl F59_0 rfl (by repeat (first | assumption | exact mS | apply mT)) (by omega))) ?_
      refine WL.rd rfl rfl rfl (Rd.getGl rfl C57 rfl (by repeat (first | assumption | exact mS | apply mT)) rfl) ?_
      refine WL.rd rfl rfl rfl (Rd.move rfl rfl) ?_
      refine WL.rd rfl rfl rfl (Rd.lookupR (k := p) M57 K9 rfl rfl rfl (venc := ndV) (m := gm) (by repeat (first | assumption | exact mS | apply mT)) rfl) ?_
      refine WL.say 94 (u := ndV q) rfl (by rw [hq]; rfl) ?_
      refine WL.rd rfl rfl rfl (Rd.iface rfl Try.underlying30 rfl rfl) ?_
      refine WL.op rfl ?_
      refine OpW.call rfl rfl (by repeat (first | exact Evs.nil | apply Evs.cons rfl)) (by kernel_rfl) rfl rfl rfl ?_
      refine Fun.heap (R' := SlE (SL.one vs) (slv n.2.1) (G.pars n.1) :: mapP vs vbl b18 m :: R) (O' := rowW b10 s6 :: accS s6 H6 :: accT v72 (done ++ [n.1]) :: mapC vs vi b19 (c6.set p (((((G.pars n.1).drop k).count p + rem G xs (done ++ [n.1]) p : Nat) : Int) - 1)) :: O) (fun w h => OwnL.sat (by repeat (first | exact OwnL.refl | apply OwnL.take (by repeat (first | exact Take.head _ | apply Take.tail)) | apply OwnL.drop)) w (h.thin (SubL.mem (by repeat (first | exact SubL.refl | refine SubL.cons (by repeat (first | assumption | exact mS | apply mT)) ?_ | refine SubL.skip ?_))))) ?_
      refine hpush_spec (x := q) (by omega) n3 ?_; intro sv' H7 hp7 hh7
      refine WL.nil ?_
      refine blockQ.normal ?_
      refine thenQ.normal ?_
      refine WC.region ?_
      refine WL.rd rfl rfl rfl (Rd.add rfl rfl rfl (by omega)) ?_
      refine WL.rd rfl rfl rfl (Rd.move rfl rfl) ?_
      refine WL.nil ?_
      exact loopQ4.mk (k + 1) H7 sv' (c6.set p (((((G.pars n.1).drop k).count p + rem G xs (done ++ [n.1]) p : Nat) : Int) - 1)) ⟨by omega, n2.next hdr hpA hpd (.inl ⟨by omega, q, hq, hq1, hp7⟩), hh7, hc6⟩ (by omega) (by repeat (first | exact Sub.nil | refine Sub.cons rfl (by first | rfl | (congr 1; omega) | assumption) ?_)) (fun w h => OwnL.sat (by repeat (first | exact OwnL.refl | apply OwnL.take (by repeat (first | exact Take.head _ | apply Take.tail)) | apply OwnL.drop)) w (h.thin (SubL.mem (by repeat (first | exact SubL.refl | refine SubL.cons (by repeat (first | assumption | exact mS | apply mT)) ?_ | refine SubL.skip ?_)))))
     ·
      refine WC.skip ?_
      refine blockQ.normal ?_
      refine thenQ.normal ?_
      refine WC.region ?_
      refine WL.rd rfl rfl rfl (Rd.add rfl rfl rfl (by omega)) ?_
      refine WL.rd rfl rfl rfl (Rd.move rfl rfl) ?_
      refine WL.nil ?_
      exact loopQ4.mk (k + 1) H6 s6 (c6.set p (((((G.pars n.1).drop k).count p + rem G xs (done ++ [n.1]) p : Nat) : Int) - 1)) ⟨by omega, n2.next hdr hpA hpd (.inr ⟨by omega, rfl⟩), n3, hc6⟩ (by omega) (by repeat (first | exact Sub.nil | refine Sub.cons rfl (by first | rfl | (congr 1; omega) | assumption) ?_)) (fun w h => OwnL.sat (by repeat (first | exact OwnL.refl | apply OwnL.take (by repeat (first | exact Take.head _ | apply Take.tail)) | apply OwnL.drop)) w (h.thin (SubL.mem (by repeat (first | exact SubL.refl | refine SubL.cons (by repeat (first | assumption | exact mS | apply mT)) ?_ | refine SubL.skip ?_)))))
    ·
     obtain rfl : k = (G.pars n.1).length := by omega
     have hl2 := n2.done ha l1 hfirst.1
     refine WC.exit ?_
     refine thenQ.exit ?_
     refine loopQ4.exit ?_
     refine blockQ.exit ?_
     refine blockQ.normal ?_
     exact loopQ5.mk (done ++ [n.1]) v72 H6 s6 c6 ⟨hl2, n3, fun p => by rw [n4, List.drop_length]; simp, fun o h => l4 o (.step hfirst h)⟩ (by rw [List.length_append, List.length_singleton]; omega) (by repeat (first | exact Sub.nil | refine Sub.cons rfl (by first | rfl | (congr 1; omega) | assumption) ?_)) (fun w h => OwnL.sat (by repeat (first | exact OwnL.refl | apply OwnL.take (by repeat (first | exact Take.head _ | apply Take.tail)) | apply OwnL.drop)) w (h.thin (SubL.mem (by repeat (first | exact SubL.refl | refine SubL.cons (by repeat (first | assumption | exact mS | apply mT)) ?_ | refine SubL.skip ?_)))))
   ·
    obtain rfl : G4 = [] := List.length_eq_zero_iff.1 (by omega)
    refine WC.heap (R' := R) (O' := accT ov done :: O) (fun w h => OwnL.sat (by repeat (first | exact OwnL.refl | apply OwnL.take (by repeat (first | exact Take.head _ | apply Take.tail)) | apply OwnL.drop)) w (h.thin (SubL.mem (by repeat (first | exact SubL.refl | refine SubL.cons (by repeat (first | assumption | exact mS | apply mT)) ?_ | refine SubL.skip ?_))))) ?_
    refine WC.exit ?_
    refine thenQ.exit ?_
    refine loopQ5.exit ?_
    refine blockQ.exit ?_
    refine thenQ.normal ?_
    refine WC.seq ?_
    refine WC.region ?_
    refine WL.rd rfl rfl rfl (Rd.move rfl rfl) ?_
    refine WL.rd rfl rfl rfl (Rd.assign rfl rfl) ?_
    refine WL.nil ?_
    refine thenQ.normal ?_
    refine WC.ret (Ret.one Try.results23 rfl ?_)
    exact hk ov done (l4 done (.stop fun x hx => by have := (l1.hs x).2 hx; cases this))
theorem log_spec {fs : List T} {fv : Value} (hG : GV gv G R) (hc : Closed G) (hS : Small G) (hf : SlE (SL.one vs) fv fs ∈ R) (hsz : fs.length ≤ 500000) (hk : ∀ v out, Kahn G (Come G fs) [] out → POST v R (accT v out :: O)) :
  Fun Try.prog 23 #[gv, fv] R O POST := by
 rcases hG with ⟨rfl, h0⟩ | ⟨b, bm, gm, rfl, hb, hgm, hp, hMG⟩
 ·
  refine logN_spec h0 hc hS hf hsz fun v => hk v [] (.stop fun x hx => ?_)
  have := hx.1.mem hc
  rw [h0] at this; cases this
 ·
  exact log1_spec hb hgm hp hMG hc hS hf hsz hk
end
end Go.Proofs.Ytfenbhaehkkkeaa
