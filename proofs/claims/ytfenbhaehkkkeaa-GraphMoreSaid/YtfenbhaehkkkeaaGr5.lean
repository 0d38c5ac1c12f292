/-
  Layer 18: mark: what is come to from some nodes.
-/
import Derived.Test.YtfenbhaehkkkeaaGr4
namespace Go.Proofs.Ytfenbhaehkkkeaa
open Go Go.SL
structure MarkIs (G : PG) (fs : List T) (m : GoMap T Bool) : Prop where
  get : ∀ id v, m.get id = some v → v = true ∧ Come G fs id
  all : ∀ id, Come G fs id → m.get id = some true
structure MarkAt (G : PG) (fs : List T) (m : GoMap T Bool) (ws : List T) : Prop where
  get : ∀ id v, m.get id = some v → v = true ∧ Come G fs id
  work : ∀ x ∈ ws, Come G fs x
  beg : ∀ f ∈ fs, f ∈ G.ks → m.get f = some true ∨ f ∈ ws
  on : ∀ x, m.get x = some true → ∀ p ∈ G.pars x, m.get p = some true ∨ p ∈ ws
def left (G : PG) (m : GoMap T Bool) (ws : List T) : Nat := ws.length + restSum G fun x => (m.get x).isSome
theorem snoc_of {ws : List T} (h : 0 < ws.length) : ws = ws.take (ws.length - 1) ++ [ws[ws.length - 1]!] := by
  rw [← take_snoc' (by omega), List.take_of_length_le (by omega)]
theorem MarkAt.old {G : PG} {fs : List T} {m : GoMap T Bool} {ws : List T} {x : T} (h : MarkAt G fs m (ws ++ [x])) (hx : m.get x = some true) : MarkAt G fs m ws := by
  refine ⟨h.get, fun y hy => h.work y (List.mem_append_left _ hy), fun f h1 h2 => ?_, fun y hy p hp => ?_⟩
  · rcases h.beg f h1 h2 with g | g
    · exact .inl g
    · rcases List.mem_append.1 g with g | g
      · exact .inr g
      · rw [List.mem_singleton.1 g]; exact .inl hx
  · rcases h.on y hy p hp with g | g
    · exact .inl g
    · rcases List.mem_append.1 g with g | g
      · exact .inr g
      · rw [List.mem_singleton.1 g]; exact .inl hx
theorem MarkAt.new {G : PG} (hc : Closed G) {fs : List T} {m : GoMap T Bool} {ws : List T} {x : T} (h : MarkAt G fs m (ws ++ [x])) : MarkAt G fs (m.set x true) (ws ++ G.pars x) := by
  have hx := h.work x (List.mem_append_right _ (List.mem_singleton.2 rfl))
  have hxk := hx.mem hc
  have key : ∀ p, (m.get p = some true ∨ p ∈ ws ++ [x]) → (m.set x true).get p = some true ∨ p ∈ ws ++ G.pars x := fun p hp => by
    rw [GoMap.get_set]
    by_cases e : p = x
    · rw [if_pos e]; exact .inl rfl
    · rw [if_neg e]
      rcases hp with g | g
      · exact .inl g
      · rcases List.mem_append.1 g with g | g
        · exact .inr (List.mem_append_left _ g)
        · exact absurd (List.mem_singleton.1 g) e
  refine ⟨fun id v hv => ?_, fun y hy => ?_, fun f h1 h2 => key f (h.beg f h1 h2), fun y hy p hp => ?_⟩
  · rw [GoMap.get_set] at hv
    by_cases e : id = x
    · rw [if_pos e] at hv
      cases hv
      exact ⟨rfl, e ▸ hx⟩
    · rw [if_neg e] at hv
      exact h.get id v hv
  · rcases List.mem_append.1 hy with g | g
    · exact h.work y (List.mem_append_left _ g)
    · exact hx.path (.step hxk g (.refl _))
  · rw [GoMap.get_set] at hy
    by_cases e : y = x
    · subst e
      exact .inr (List.mem_append_right _ hp)
    · rw [if_neg e] at hy
      exact key p (h.on y hy p hp)
theorem MarkAt.done {G : PG} {fs : List T} {m : GoMap T Bool} (h : MarkAt G fs m []) : MarkIs G fs m := by
  refine ⟨h.get, fun id hid => ?_⟩
  refine Come.all (M := fun x => m.get x = some true) (fun f h1 h2 => ?_) (fun x _ hx p hp => ?_) hid
  · rcases h.beg f h1 h2 with g | g
    · exact g
    · cases g
  · rcases h.on x hx p hp with g | g
    · exact g
    · cases g
theorem left_new {G : PG} (_hc : Closed G) {m : GoMap T Bool} {ws : List T} {x : T} (hx : x ∈ G.ks) (hm : m.get x = none) : left G (m.set x true) (ws ++ G.pars x) + 1 ≤ left G m (ws ++ [x]) := by
  unfold left
  have h : restSum G (fun y => ((m.set x true).get y).isSome) + (G.pars x).length ≤ restSum G (fun y => (m.get y).isSome) := sum_drop (f := fun x => (G.pars x).length) (l := G.ks) (p := fun y => !((m.set x true).get y).isSome) (q := fun y => !(m.get y).isSome) (z := x) hx (fun y hy => by
    rw [GoMap.get_set] at hy
    by_cases e : y = x
    · rw [if_pos e] at hy; cases hy
    · rw [if_neg e] at hy; exact hy) (by simp) (by simp [hm])
  rw [List.length_append, List.length_append, List.length_singleton]
  omega
theorem MarkAt.start (G : PG) (fs : List T) : MarkAt G fs GoMap.empty (fs.filter (stays G)) := by
  refine ⟨fun id v h => (by cases h), fun x hx => ?_, fun f h1 h2 => .inr (List.mem_filter.2 ⟨h1, decide_eq_true h2⟩), fun x hx => (by cases hx)⟩
  have h := List.mem_filter.1 hx
  exact ⟨x, h.1, of_decide_eq_true h.2, .refl _⟩
theorem restSum_le {G : PG} {p : T → Bool} : restSum G p ≤ restSum G fun _ => false := by
  unfold restSum
  exact sum_le fun x _ => rfl
section
variable {R : List RO} {O O' : List Own} {POST : Value → List RO → List Own → Prop} {gv : Value} {G : PG}
set_option maxRecDepth 20000 in
set_option maxHeartbeats 4000000 in
theorem mark_spec {fs : List T} {fv : Value} (hG : GV gv G R) (hc : Closed G) (hf : SlE (SL.one vs) fv fs ∈ R) (hsz : fs.length + restSum G (fun _ => false) ≤ 900000) (hk : ∀ b m, MarkIs G fs m → m.l.length ≤ G.ks.length → POST (.map (some b)) R (mapC vs vbl b m :: O)) :
    Fun Try.prog 32 #[gv, fv] R O POST := by
  have hgo := hG.one
  refine Fun.enter (l := [_, _]) Try.func32 rfl Try.ntmps32 rfl (L0 := [(0, _), (1, _)]) rfl ?_
  refine WC.seq ?_
  refine WC.region ?_
  refine WL.op rfl ?_
  refine OpW.box1 rfl rfl (by first | exact ⟨rfl, rfl⟩ | assumption) rfl rfl ?_; intro b2
  refine WL.rd rfl rfl rfl (Rd.assign rfl rfl) ?_
  refine WL.nil ?_
  refine thenQ.normal ?_
  refine WC.seq ?_
  refine WC.region ?_
  refine WL.op rfl ?_
  refine OpW.makeMap vs vbl rfl rfl rfl ?_; intro b8
  refine WL.rd rfl rfl rfl (Rd.assign rfl rfl) ?_
  refine WL.nil ?_
  refine thenQ.normal ?_
  refine WC.seq ?_
  refine WC.region ?_
  refine WL.rd rfl rfl rfl (Rd.move rfl rfl) ?_
  refine WL.op rfl ?_
  refine OpW.call rfl rfl (by repeat (first | exact Evs.nil | apply Evs.cons rfl)) (by kernel_rfl) rfl rfl rfl ?_
  refine clone_spec hf (by omega) ?_; intro v10
  refine WL.rd rfl rfl rfl (Rd.func rfl (by repeat (first | exact Evs.nil | apply Evs.cons rfl)) (by repeat (first | exact Evs.nil | apply Evs.cons rfl)) ⟨_, rfl⟩) ?_
  refine WL.op rfl ?_
  refine OpW.call rfl rfl (by repeat (first | exact Evs.nil | apply Evs.cons rfl)) (by kernel_rfl) rfl rfl rfl ?_
  refine Fun.heap (R' := R) (O' := accT v10 fs :: rowC b2 32 [gv] :: mapC vs vbl b8 GoMap.empty :: O) (fun w h => OwnL.sat (by repeat (first | exact OwnL.refl | apply OwnL.take (by repeat (first | exact Take.head _ | apply Take.tail)) | apply OwnL.drop)) w (h.thin (SubL.mem (by repeat (first | exact SubL.refl | refine SubL.cons (by repeat (first | assumption | exact mS | apply mT)) ?_ | refine SubL.skip ?_))))) ?_
  refine delete_spec hG List.mem_cons_self (by omega) ?_; intro v12
  have hfl : (fs.filter (stays G)).length ≤ fs.length := List.length_filter_le _ _
  refine WL.rd rfl rfl rfl (Rd.assign rfl rfl) ?_
  refine WL.nil ?_
  refine thenQ.normal ?_
  refine WC.seq ?_
  refine WC.block ?_
  refine WC.pick [6, 2, 5] (by repeat (first | exact Pick.nil | apply Pick.cons rfl)) ?_
  refine WC.loop3 1 (fun (ws : List T) (wv : Value) (m : GoMap T Bool) => [(6, wv)]) (fun (ws : List T) (wv : Value) (m : GoMap T Bool) => accT wv ws :: mapC vs vbl b8 m :: rowC b2 32 [gv] :: O) (fun (ws : List T) (wv : Value) (m : GoMap T Bool) => MarkAt G fs m ws ∧ left G m ws ≤ 900000) (fun (ws : List T) (wv : Value) (m : GoMap T Bool) => left G m ws) (fs.filter (stays G)) (v12) (GoMap.empty) (by repeat (first | exact Split.zero | apply Split.succ)) ?hinv1 (by repeat (first | exact Sub.nil | refine Sub.cons rfl (by first | rfl | (congr 1; omega) | assumption) ?_)) (fun w h => OwnL.sat (by repeat (first | exact OwnL.refl | apply OwnL.take (by repeat (first | exact Take.head _ | apply Take.tail)) | apply OwnL.drop)) w (h.thin (SubL.mem (by repeat (first | exact SubL.refl | refine SubL.cons (by repeat (first | assumption | exact mS | apply mT)) ?_ | refine SubL.skip ?_))))) ?_
  case hinv1 =>
    exact ⟨MarkAt.start G fs, (by unfold left; have := restSum_le (G := G) (p := fun x => ((GoMap.empty : GoMap T Bool).get x).isSome); omega)⟩
  intro ws wv m
  rintro ⟨i1, i2⟩
  refine WC.seq ?_
  refine WC.seq ?_
  refine WC.region ?_
  refine WL.rd rfl rfl rfl (Rd.move rfl rfl) ?_
  refine WL.rd rfl rfl rfl (Rd.lenA (enc := SL.one vs) (xs := ws) rfl rfl Try.underlying28 (by repeat (first | assumption | exact mS | apply mT))) ?_
  refine WL.rd rfl rfl rfl (Rd.gtr rfl rfl rfl) ?_
  refine WL.nil ?_
  refine thenQ.normal ?_
  first | refine WC.ite rfl (fun hc1 => ?_) (fun hc1 => ?_) | refine WC.cond rfl (fun hc1 => ?_) (fun hc1 => ?_)
  · skip
    have hw0 : 0 < ws.length := by omega
    have hwl : ws.length ≤ 900000 := by unfold left at i2; omega
    have hsn := snoc_of hw0
    have hxc := i1.work ws[ws.length - 1]! (get!_mem (by omega))
    have hxk := hxc.mem hc
    have i1' := i1
    have i2' := i2
    have hlft : left G m (ws.take (ws.length - 1) ++ [ws[ws.length - 1]!]) = left G m ws := by rw [← hsn]
    rw [hsn] at i1'
    obtain ⟨x, hx⟩ : ∃ x, ws[ws.length - 1]! = x := ⟨_, rfl⟩
    obtain ⟨us, hus⟩ : ∃ us, ws.take (ws.length - 1) = us := ⟨_, rfl⟩
    rw [hx] at hxc hxk i1' hlft
    rw [hus] at i1' hlft
    have hul : us.length ≤ 900000 := by rw [← hus, List.length_take]; omega
    refine WC.skip ?_
    refine thenQ.normal ?_
    refine WC.block ?_
    refine WC.seq ?_
    refine WC.region ?_
    refine WL.rd rfl rfl rfl (Rd.move rfl rfl) ?_
    refine WL.rd rfl rfl rfl (Rd.move rfl rfl) ?_
    refine WL.rd rfl rfl rfl (Rd.lenA (enc := SL.one vs) (xs := ws) rfl rfl Try.underlying28 (by repeat (first | assumption | exact mS | apply mT))) ?_
    refine WL.rd rfl rfl rfl (Rd.sub rfl rfl rfl (by omega)) ?_
    refine WL.rd rfl rfl rfl (Rd.idxA1 (enc := SL.one vs) (xs := ws) (k := ws.length - 1) rfl S28 rfl rfl (by omega) (by repeat (first | assumption | exact mS | apply mT)) (by omega)) ?_
    refine WL.rd rfl rfl rfl (Rd.getA (g := vs) (xs := ws) (k := ws.length - 1) (a := x) rfl C9 rfl (by repeat (first | assumption | exact mS | apply mT)) (by rw [← hx]; exact get!_of_lt (by omega))) ?_
    refine WL.rd rfl rfl rfl (Rd.assign rfl rfl) ?_
    refine WL.nil ?_
    refine thenQ.normal ?_
    refine WC.seq ?_
    refine WC.region ?_
    refine WL.rd rfl rfl rfl (Rd.move rfl rfl) ?_
    refine WL.rd rfl rfl rfl (Rd.move rfl rfl) ?_
    refine WL.rd rfl rfl rfl (Rd.lenA (enc := SL.one vs) (xs := ws) rfl rfl Try.underlying28 (by repeat (first | assumption | exact mS | apply mT))) ?_
    refine WL.rd rfl rfl rfl (Rd.sub rfl rfl rfl (by omega)) ?_
    refine WL.rd rfl rfl rfl (Rd.cutA_h (enc := SL.one vs) (xs := ws) (hi := ws.length - 1) rfl S28 rfl rfl (by omega) (by repeat (first | assumption | exact mS | apply mT)) (by omega)) ?_
    refine WL.heap (fun w h => Sat.cutAcc (enc := SL.one vs) (size := 1) (xs := ws) (hi := ws.length - 1) (by repeat (first | assumption | exact Take.head _ | apply Take.tail)) (fun _ => rfl) (by omega) h) ?_
    refine WL.heap (R' := R) (O' := accT (subSl wv 1 0 (ws.length - 1)) us :: mapC vs vbl b8 m :: rowC b2 32 [gv] :: O) (fun w h => by rw [hus] at h; exact (fun w h => OwnL.sat (by repeat (first | exact OwnL.refl | apply OwnL.take (by repeat (first | exact Take.head _ | apply Take.tail)) | apply OwnL.drop)) w (h.thin (SubL.mem (by repeat (first | exact SubL.refl | refine SubL.cons (by repeat (first | assumption | exact mS | apply mT)) ?_ | refine SubL.skip ?_))))) w h) ?_
    refine WL.rd rfl rfl rfl (Rd.assign rfl rfl) ?_
    refine WL.nil ?_
    refine thenQ.normal ?_
    refine WC.seq ?_
    refine WC.seq ?_
    refine WC.region ?_
    refine WL.rd rfl rfl rfl (Rd.move rfl rfl) ?_
    refine WL.rd rfl rfl rfl (Rd.move rfl rfl) ?_
    refine WL.rd rfl rfl rfl (Rd.lookup (k := x) M69 K9 rfl rfl rfl (by repeat (first | assumption | exact mS | apply mT)) rfl) ?_
    refine WL.say 29 (u := .bool (decide (m.get x = some true))) rfl (by cases m.get x with | none => rfl | some b => cases b <;> rfl) ?_
    refine WL.nil ?_
    refine thenQ.normal ?_
    first | refine WC.ite rfl (fun hc2 => ?_) (fun hc2 => ?_) | refine WC.cond rfl (fun hc2 => ?_) (fun hc2 => ?_)
    · skip
      refine WC.exit ?_
      refine thenQ.exit ?_
      refine blockQ.exit ?_
      exact loopQ3.mk us (subSl wv 1 0 (ws.length - 1)) m ⟨i1'.old hc2, by
      have : left G m us + 1 = left G m ws := by rw [← hlft]; unfold left; rw [List.length_append, List.length_singleton]; omega
      omega⟩ (by
      have : left G m us + 1 = left G m ws := by rw [← hlft]; unfold left; rw [List.length_append, List.length_singleton]; omega
      omega) (by repeat (first | exact Sub.nil | refine Sub.cons rfl (by first | rfl | (congr 1; omega) | assumption) ?_)) (fun w h => OwnL.sat (by repeat (first | exact OwnL.refl | apply OwnL.take (by repeat (first | exact Take.head _ | apply Take.tail)) | apply OwnL.drop)) w (h.thin (SubL.mem (by repeat (first | exact SubL.refl | refine SubL.cons (by repeat (first | assumption | exact mS | apply mT)) ?_ | refine SubL.skip ?_)))))
    · skip
      have hmn : m.get x = none := by
        cases e : m.get x with
        | none => rfl
        | some v => exact absurd (by rw [e, (i1.get x v e).1]) hc2
      have hln := left_new hc (m := m) (ws := us) hxk hmn
      rw [hlft] at hln
      have hpl : (us ++ G.pars x).length ≤ 900000 := by unfold left at hln; unfold left at i2; omega
      rw [List.length_append] at hpl
      rcases hG with ⟨rfl, h0⟩ | ⟨b, bm, gm, rfl, hb, hgm, hp, hMG⟩
      · rw [h0] at hxk; cases hxk
      obtain ⟨q, hq⟩ := (hMG.keys x).1 hxk
      refine WC.skip ?_
      refine thenQ.normal ?_
      refine WC.seq ?_
      refine WC.region ?_
      refine WL.rd rfl rfl rfl (Rd.move rfl rfl) ?_
      refine WL.rd rfl rfl rfl (Rd.move rfl rfl) ?_
      refine WL.op rfl ?_
      refine OpW.mapUpdate (k := x) (v := true) M69 K9 rfl rfl rfl rfl (by repeat (first | assumption | exact Take.head _ | apply Take.tail)) rfl rfl rfl ?_
      refine WL.nil ?_
      refine thenQ.normal ?_
      refine WC.region ?_
      refine WL.rd rfl rfl rfl (Rd.move rfl rfl) ?_
      refine WL.rd rfl rfl rfl (Rd.row1 (b := b2) (off := 0) (u := .pointer (some ⟨b, 0, none⟩)) rfl C32 rfl (by repeat (first | assumption | exact mS | apply mT)) rfl) ?_
      refine WL.rd rfl rfl rfl (Rd.nilc rfl rfl) ?_
      refine WL.rd rfl rfl rfl ((by first | exact Rd.field rfl F59_0 rfl rfl | exact Rd.fieldE rfl F59_0 rfl (by repeat (first | assumption | exact mS | apply mT)) (by omega) | exact Rd.fieldA rfl F59_0 rfl (by repeat (first | assumption | exact mS | apply mT)) (by omega))) ?_
      refine WL.rd rfl rfl rfl (Rd.getGl rfl C57 rfl hb rfl) ?_
      refine WL.rd rfl rfl rfl (Rd.move rfl rfl) ?_
      refine WL.rd rfl rfl rfl (Rd.lookupR (k := x) M57 K9 rfl rfl rfl hgm rfl) ?_
      refine WL.say 38 (u := .agg #[vs q.1, slv q.2.1, vi q.2.2]) rfl (by rw [hq]; rfl) ?_
      refine WL.rd rfl rfl rfl (Rd.part (ft := 0) rfl Try.underlying30 rfl C28 rfl rfl rfl) ?_
      refine WL.heap (fun w h => h.weaken hp (fun w hw => hw _ _ hq)) ?_
      refine WL.op rfl ?_
      refine OpW.appendE (enc := SL.one vs) (ys := G.pars x) rfl S28 Try.underlying28 rfl rfl (by repeat (first | assumption | exact Take.head _ | apply Take.tail)) (by repeat (first | assumption | exact mS | apply mT)) (by intro x; first | rfl | (cases x; rfl) | (rcases x with ⟨_, _, _⟩; rfl) | (rcases x with ⟨_, _, _, _⟩; rfl)) (by intro x; first | rfl | (cases x; rfl) | (rcases x with ⟨_, _, _⟩; rfl) | (rcases x with ⟨_, _, _, _⟩; rfl)) ⟨by show _ ≤ 9223372036854775807; omega, by omega⟩ rfl rfl ?_; intro v40 hv40
      refine WL.rd rfl rfl rfl (Rd.assign rfl rfl) ?_
      refine WL.nil ?_
      refine blockQ.normal ?_
      exact loopQ3.mk (us ++ G.pars x) v40 (m.set x true) ⟨i1'.new hc, by omega⟩ (by omega) (by repeat (first | exact Sub.nil | refine Sub.cons rfl (by first | rfl | (congr 1; omega) | assumption) ?_)) (fun w h => OwnL.sat (by repeat (first | exact OwnL.refl | apply OwnL.take (by repeat (first | exact Take.head _ | apply Take.tail)) | apply OwnL.drop)) w (h.thin (SubL.mem (by repeat (first | exact SubL.refl | refine SubL.cons (by repeat (first | assumption | exact mS | apply mT)) ?_ | refine SubL.skip ?_)))))
  · skip
    obtain rfl : ws = [] := List.length_eq_zero_iff.1 (by omega)
    have hdone := i1.done
    have hlen : m.l.length ≤ G.ks.length := by
      have h1 : (m.l.map (·.1)).Nodup := m.keys
      have := nodup_len' h1 (l' := G.ks) (fun k hk => by
        obtain ⟨y, hy, rfl⟩ := List.mem_map.1 hk
        have : m.get y.1 = some y.2.1 := GoMap.get_iff.2 ⟨y.2.2, hy⟩
        exact (hdone.get _ _ this).2.mem hc)
      rwa [List.length_map] at this
    refine WC.exit ?_
    refine thenQ.exit ?_
    refine loopQ3.exit ?_
    refine blockQ.exit ?_
    refine thenQ.normal ?_
    refine WC.seq ?_
    refine WC.region ?_
    refine WL.rd rfl rfl rfl (Rd.move rfl rfl) ?_
    refine WL.rd rfl rfl rfl (Rd.assign rfl rfl) ?_
    refine WL.nil ?_
    refine thenQ.normal ?_
    refine WC.heap (R' := R) (O' := mapC vs vbl b8 m :: O) (fun w h => OwnL.sat (by repeat (first | exact OwnL.refl | apply OwnL.take (by repeat (first | exact Take.head _ | apply Take.tail)) | apply OwnL.drop)) w (h.thin (SubL.mem (by repeat (first | exact SubL.refl | refine SubL.cons (by repeat (first | assumption | exact mS | apply mT)) ?_ | refine SubL.skip ?_))))) ?_
    refine WC.ret (Ret.one Try.results32 rfl ?_)
    exact hk b8 m hdone hlen
end
end Go.Proofs.Ytfenbhaehkkkeaa
