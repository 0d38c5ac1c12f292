/-
  Layer 8: the document's Split; the laws' small functions; the word of five letters.
-/
import Derived.Test.YtnpkpcjiebiplaaMg12
namespace Go.SL
open Go Go.RowKit
section
variable {P : Program} {o : Oper} {L : Env} {R : List RO} {O : List Own} {t e : TypeId} {n size1 : Nat} {x y : Operand} {v : Value} {α : Type} {enc : α → List Value} {xs : List α}
/-- A part of an array that is a slice's element. -/
theorem Rd.idxArrE {kd : IntKind} {k j fo : Nat} {p : Int} (ho : o.op = .indexAddr t x y) (hT : ArT P t n e size1) (hx : ev L x = some (.pointer (some (elemAddr v j)))) (hy : ev L y = some (.int kd p)) (hk : p = (k : Int)) (hlt : k < n) (hfo : k * size1 = fo) (hp : SlE enc v xs ∈ R) (hne : 0 < xs.length) : Rd P o L R O (.pointer (some (elemAddr v (j + fo)))) := fun ρ w hρ hR hO => by
  obtain ⟨o', c, rfl, _, _, hn, _⟩ := hR _ hp
  obtain ⟨ad, rfl⟩ : ∃ ad, o' = some ad := by
    cases o' with
    | none => have h0 := hn rfl; omega
    | some ad => exact ⟨ad, rfl⟩
  have h := Rd.idxArr (P := P) (o := o) (L := L) (R := R) (O := O) (b := ad.block) (off := ad.off + j) (r := ad.off + (j + fo)) ho hT hx hy hk hlt (by omega) ρ w hρ hR hO
  exact h
end
end Go.SL
namespace Go.Proofs.Ytnpkpcjiebiplaa
open Go Go.SL
section
variable {R : List RO} {O O' : List Own} {POST : Value → List RO → List Own → Prop} {l : List Pr} {lv : Value} {word : T}
def SplitR (l : List Pr) (word : T) (out : List T) : Prop := (4096 < word.length ∧ out = []) ∨ (word.length ≤ 4096 ∧ Spl l (chars word) out)
theorem split_eq {out out' : List T} (h : SplitIs l word out) (h' : SplitR l word out') : out = out' := by
  rcases h with ⟨h1, rfl⟩ | ⟨h1, h, _⟩ <;> rcases h' with ⟨g1, rfl⟩ | ⟨g1, g⟩
  · rfl
  · omega
  · omega
  · exact h.uniq g
set_option maxRecDepth 20000 in
set_option maxHeartbeats 4000000 in
theorem rsplit_spec (hR : SlE encP lv l ∈ R) (hk : ∀ v out, SplitR l word out → POST v (SlE (one vs) v out :: R) O) : Fun Try.prog 19 #[lv, vs word] R O POST := by
  refine Fun.len hR fun hll => ?_
  refine Fun.enter (l := [_, _]) Try.func19 rfl Try.ntmps19 rfl (L0 := [(0, _), (1, _)]) rfl ?_
  refine WC.seq ?_
  refine WC.region ?_
  refine WL.rd rfl rfl rfl (Rd.assign rfl rfl) ?_
  refine WL.nil ?_
  refine thenQ.normal ?_
  refine WC.seq ?_
  refine WC.region ?_
  refine WL.rd rfl rfl rfl (Rd.assign rfl rfl) ?_
  refine WL.nil ?_
  refine thenQ.normal ?_
  refine WC.seq ?_
  refine WC.seq ?_
  refine WC.region ?_
  refine WL.rd rfl rfl rfl (Rd.move rfl rfl) ?_
  refine WL.rd rfl rfl rfl (Rd.slen (ts := #[]) (ty := 0) rfl rfl Try.underlying9) ?_
  refine WL.rd rfl rfl rfl (Rd.gtr rfl rfl rfl) ?_
  refine WL.nil ?_
  refine thenQ.normal ?_
  first | refine WC.ite rfl (fun hc1 => ?_) (fun hc1 => ?_) | refine WC.cond rfl (fun hc1 => ?_) (fun hc1 => ?_)
  · skip
    refine WC.seq ?_
    refine WC.region ?_
    refine WL.rd rfl rfl rfl (Rd.assign rfl rfl) ?_
    refine WL.nil ?_
    refine thenQ.normal ?_
    refine WC.heap (fun w h => Sat.nilE (enc := one vs) h) ?_
    refine WC.ret (Ret.one Try.results19 rfl ?_)
    exact hk _ [] (.inl ⟨by omega, rfl⟩)
  · skip
    refine WC.skip ?_
    refine thenQ.normal ?_
    refine WC.seq ?_
    refine WC.seq ?_
    refine WC.region ?_
    refine WL.rd rfl rfl rfl (Rd.assign rfl rfl) ?_
    refine WL.nil ?_
    refine thenQ.normal ?_
    refine WC.block ?_
    refine WC.pick [5, 6, 0, 1] (by repeat (first | exact Pick.nil | apply Pick.cons rfl)) ?_
    refine WC.loop2 2 (fun (i : Nat) (pv : Value) => [(5, pv), (6, vi i)]) (fun (i : Nat) (pv : Value) => accT pv (chars (word.take i)) :: O) (fun (i : Nat) (pv : Value) => i ≤ word.length) (fun (i : Nat) (pv : Value) => word.length - i) (0) (nilS) (by repeat (first | exact Split.zero | apply Split.succ)) ?hinv1 (by repeat (first | exact Sub.nil | refine Sub.cons rfl (by first | rfl | (congr 1; omega) | assumption) ?_)) (fun w h => by have := Sat.accNil (e := 9) (size := 1) (enc := one vs) h; exact (fun w h => OwnL.sat (by repeat (first | exact OwnL.refl | apply OwnL.take (by repeat (first | exact Take.head _ | apply Take.tail)) | apply OwnL.drop)) w (h.thin (SubL.mem (by repeat (first | exact SubL.refl | refine SubL.cons (by repeat (first | assumption | exact mS | apply mT)) ?_ | refine SubL.skip ?_))))) w this) ?_
    case hinv1 =>
      exact Nat.zero_le _
    intro i pv
    rintro i1
    refine WC.seq ?_
    refine WC.seq ?_
    refine WC.region ?_
    refine WL.rd rfl rfl rfl (Rd.move rfl rfl) ?_
    refine WL.rd rfl rfl rfl (Rd.move rfl rfl) ?_
    refine WL.rd rfl rfl rfl (Rd.slen (ts := #[]) (ty := 0) rfl rfl Try.underlying9) ?_
    refine WL.rd rfl rfl rfl (Rd.lss rfl rfl rfl) ?_
    refine WL.nil ?_
    refine thenQ.normal ?_
    first | refine WC.ite rfl (fun hc2 => ?_) (fun hc2 => ?_) | refine WC.cond rfl (fun hc2 => ?_) (fun hc2 => ?_)
    · skip
      have hn1 := chars_len (word.take i)
      rw [List.length_take] at hn1
      refine WC.skip ?_
      refine thenQ.normal ?_
      refine WC.seq ?_
      refine WC.block ?_
      refine WC.region ?_
      refine WL.rd rfl rfl rfl (Rd.move rfl rfl) ?_
      refine WL.rd rfl rfl rfl (Rd.move rfl rfl) ?_
      refine WL.rd rfl rfl rfl (Rd.move rfl rfl) ?_
      refine WL.rd rfl rfl rfl (Rd.move rfl rfl) ?_
      refine WL.rd rfl rfl rfl (Rd.add rfl rfl rfl (by omega)) ?_
      refine WL.rd rfl rfl rfl (Rd.scut_lh (lo := i) (hi := i + 1) rfl Try.underlying9 rfl rfl rfl (by omega) (by omega) (by omega) (by omega)) ?_
      refine WL.say 26 (u := vs [word[i]!]) rfl (by rw [cut1 (by omega)]) ?_
      refine WL.op rfl ?_
      refine OpW.buildSl (ps := [(0, _)]) rfl S38 (by repeat (first | exact Evs.nil | apply Evs.cons rfl)) rfl rfl (by repeat (first | exact CellsOf.nil | apply CellsOf.cons rfl)) (by kernel_rfl) rfl rfl rfl ?_; intro b27
      refine WL.op rfl ?_
      refine OpW.appendRow (enc := one vs) rfl S38 rfl rfl (by repeat (first | assumption | exact Take.head _ | apply Take.tail)) (by repeat (first | assumption | exact Take.head _ | apply Take.tail)) [[word[i]!]] rfl (by rfl) rfl (by intro x; first | rfl | (cases x; rfl) | (rcases x with ⟨_, _, _⟩; rfl) | (rcases x with ⟨_, _, _, _⟩; rfl)) (by intro x; first | rfl | (cases x; rfl) | (rcases x with ⟨_, _, _⟩; rfl) | (rcases x with ⟨_, _, _, _⟩; rfl)) ⟨by simp only [maxLen, List.length_append, List.length_nil, List.length_cons, List.length_drop, List.length_take, List.length_map]; omega, by first | omega | (simp only [List.length_append, List.length_nil, List.length_cons, List.length_drop, List.length_take, List.length_map]; omega)⟩ rfl rfl ?_; intro v28 hv28
      refine WL.rd rfl rfl rfl (Rd.assign rfl rfl) ?_
      refine WL.nil ?_
      refine blockQ.normal ?_
      refine thenQ.normal ?_
      refine WC.region ?_
      refine WL.rd rfl rfl rfl (Rd.move rfl rfl) ?_
      refine WL.rd rfl rfl rfl (Rd.add rfl rfl rfl (by omega)) ?_
      refine WL.rd rfl rfl rfl (Rd.assign rfl rfl) ?_
      refine WL.nil ?_
      exact loopQ2.mk (i + 1) v28 (by omega) (by omega) (by repeat (first | exact Sub.nil | refine Sub.cons rfl (by first | rfl | (congr 1; omega) | assumption) ?_)) (fun w h => by rw [chars_next (by omega)]; exact (fun w h => OwnL.sat (by repeat (first | exact OwnL.refl | apply OwnL.take (by repeat (first | exact Take.head _ | apply Take.tail)) | apply OwnL.drop)) w (h.thin (SubL.mem (by repeat (first | exact SubL.refl | refine SubL.cons (by repeat (first | assumption | exact mS | apply mT)) ?_ | refine SubL.skip ?_))))) w h)
    · skip
      obtain rfl : i = word.length := by omega
      rw [List.take_length]
      have hcl := chars_len word
      have hcj := chars_join word
      refine WC.exit ?_
      refine thenQ.exit ?_
      refine loopQ2.exit ?_
      refine blockQ.exit ?_
      refine thenQ.normal ?_
      refine WC.block ?_
      refine WC.pick [5, 0] (by repeat (first | exact Pick.nil | apply Pick.cons rfl)) ?_
      refine WC.loop2 1 (fun (q : List T) (pw : Value) => [(5, pw)]) (fun (q : List T) (pw : Value) => accT pw q :: O) (fun (q : List T) (pw : Value) => (∀ out, Spl l q out → Spl l (chars word) out) ∧ q.length ≤ word.length ∧ q.flatten = word) (fun (q : List T) (pw : Value) => q.length) (chars word) (pv) (by repeat (first | exact Split.zero | apply Split.succ)) ?hinv2 (by repeat (first | exact Sub.nil | refine Sub.cons rfl (by first | rfl | (congr 1; omega) | assumption) ?_)) (fun _ h => h) ?_
      case hinv2 =>
        exact ⟨fun _ h => h, by omega, hcj⟩
      intro q pw
      rintro ⟨m1, m2, m3⟩
      refine WC.block ?_
      refine WC.seq ?_
      refine WC.region ?_
      refine WL.rd rfl rfl rfl (Rd.assign rfl rfl) ?_
      refine WL.nil ?_
      refine thenQ.normal ?_
      refine WC.seq ?_
      refine WC.seq ?_
      refine WC.region ?_
      refine WL.rd rfl rfl rfl (Rd.assign rfl rfl) ?_
      refine WL.nil ?_
      refine thenQ.normal ?_
      refine WC.block ?_
      refine WC.pick [7, 8, 0, 5] (by repeat (first | exact Pick.nil | apply Pick.cons rfl)) ?_
      refine WC.loop2o 2 (fun (i : Nat) (k : Int) => [(7, vi k), (8, vi i)]) (fun (i : Nat) (k : Int) => Best l q i k ∧ (i + 1 ≤ q.length ∨ i = 0) ∧ k < l.length + 1) (fun (i : Nat) (k : Int) => q.length - i) (0) (-1) (by repeat (first | exact Split.zero | apply Split.succ)) ?hinv3 (by repeat (first | exact Sub.nil | refine Sub.cons rfl (by first | rfl | (congr 1; omega) | assumption) ?_)) (fun _ h => h) ?_
      case hinv3 =>
        exact ⟨.inl ⟨rfl, fun j h => absurd h (Nat.not_lt_zero _)⟩, .inr rfl, by omega⟩
      intro i k
      rintro ⟨j1, j2, j3⟩
      refine WC.seq ?_
      refine WC.seq ?_
      refine WC.region ?_
      refine WL.rd rfl rfl rfl (Rd.move rfl rfl) ?_
      refine WL.rd rfl rfl rfl (Rd.add rfl rfl rfl (by omega)) ?_
      refine WL.rd rfl rfl rfl (Rd.move rfl rfl) ?_
      refine WL.rd rfl rfl rfl ((by first | exact Rd.lenE rfl rfl Try.underlying38 (by repeat (first | assumption | exact mS | apply mT)) | exact Rd.lenA rfl rfl Try.underlying38 (by repeat (first | assumption | exact mS | apply mT)) | exact Rd.len rfl rfl Try.underlying38)) ?_
      refine WL.rd rfl rfl rfl (Rd.lss rfl rfl rfl) ?_
      refine WL.nil ?_
      refine thenQ.normal ?_
      first | refine WC.ite rfl (fun hc3 => ?_) (fun hc3 => ?_) | refine WC.cond rfl (fun hc3 => ?_) (fun hc3 => ?_)
      · skip
        have hge := j1.ge
        have hrg := rkI_ge l (q[i]!, q[i + 1]!)
        have hrl := rkI_lt l (q[i]!, q[i + 1]!)
        have hnx := j1.next
        refine WC.skip ?_
        refine thenQ.normal ?_
        refine WC.seq ?_
        refine WC.block ?_
        refine WC.seq ?_
        refine WC.tail 11 mixed (by kernel_rfl) ?_
        refine WS.rd rfl rfl rfl (Rd.move rfl rfl) ?_
        refine WS.rd rfl rfl rfl (Rd.move rfl rfl) ?_
        refine WS.rd rfl rfl rfl (Rd.move rfl rfl) ?_
        refine WS.rd rfl rfl rfl ((by first | exact Rd.idx1 (k := i) rfl S38 rfl rfl (by omega) (by repeat (first | assumption | exact mS | apply mT)) (by first | omega | (simp only [List.length_cons, List.length_nil, List.length_append, List.length_map]; omega)) | exact Rd.idxA1 (k := i) rfl S38 rfl rfl (by omega) (by repeat (first | assumption | exact mS | apply mT)) (by first | omega | (simp only [List.length_cons, List.length_nil, List.length_append, List.length_map]; omega)) | exact Rd.idxR1 (k := i) rfl S38 rfl rfl (by omega) (by omega))) ?_
        refine WS.rd rfl rfl rfl (Rd.getA (g := vs) (xs := q) (k := i) (a := q[i]!) rfl C9 rfl (by repeat (first | assumption | exact mS | apply mT)) (get!_of_lt (by omega))) ?_
        refine WS.rd rfl rfl rfl (Rd.move rfl rfl) ?_
        refine WS.rd rfl rfl rfl (Rd.move rfl rfl) ?_
        refine WS.rd rfl rfl rfl (Rd.add rfl rfl rfl (by omega)) ?_
        refine WS.rd rfl rfl rfl ((by first | exact Rd.idx1 (k := i + 1) rfl S38 rfl rfl (by omega) (by repeat (first | assumption | exact mS | apply mT)) (by first | omega | (simp only [List.length_cons, List.length_nil, List.length_append, List.length_map]; omega)) | exact Rd.idxA1 (k := i + 1) rfl S38 rfl rfl (by omega) (by repeat (first | assumption | exact mS | apply mT)) (by first | omega | (simp only [List.length_cons, List.length_nil, List.length_append, List.length_map]; omega)) | exact Rd.idxR1 (k := i + 1) rfl S38 rfl rfl (by omega) (by omega))) ?_
        refine WS.rd rfl rfl rfl (Rd.getA (g := vs) (xs := q) (k := i + 1) (a := q[i + 1]!) rfl C9 rfl (by repeat (first | assumption | exact mS | apply mT)) (get!_of_lt (by omega))) ?_
        refine WS.rd rfl rfl rfl (Rd.buildN (ps := [(0, _), (1, _)]) rfl Bs48 I48 rfl (by repeat (first | exact Evs.nil | apply Evs.cons rfl)) (by repeat (first | exact CellsOf.nil | apply CellsOf.cons rfl)) (by apply NFo.mk; repeat (first | exact NF.nil | apply NF.cons))) ?_
        refine WS.switch ?_
        refine WL.op rfl ?_
        refine OpW.call rfl rfl (by repeat (first | exact Evs.nil | apply Evs.cons rfl)) (by kernel_rfl) rfl rfl rfl ?_
        refine rank_spec (p := (q[i]!, q[i + 1]!)) (by repeat (first | assumption | exact mS | apply mT)) ?_
        refine WL.rd rfl rfl rfl (Rd.assign rfl rfl) ?_
        refine WL.nil ?_
        refine thenQ.normal ?_
        refine WC.pick [0, 5, 7, 8, 9] (by repeat (first | exact Pick.nil | apply Pick.cons rfl)) ?_
        refine WC.val 58 (.bool (decide (0 ≤ rkI l (q[i]!, q[i + 1]!) ∧ (k < 0 ∨ rkI l (q[i]!, q[i + 1]!) < k)))) ?_ ?_
        · skip
          refine WC.region ?_
          refine WL.rd rfl rfl rfl (Rd.move rfl rfl) ?_
          refine WL.rd rfl rfl rfl (Rd.geq rfl rfl rfl) ?_
          refine WL.rd rfl rfl rfl (Rd.move rfl rfl) ?_
          refine WL.case 50 rfl (fun hg50 => ?_) (fun hg50 => ?_)
          · skip
            refine WL.rd_yes rfl rfl rfl rfl rfl rfl (Rd.move rfl rfl) ?_
            refine WL.rd_yes rfl rfl rfl rfl rfl rfl (Rd.lss rfl rfl rfl) ?_
            refine WL.rd_yes rfl rfl rfl rfl rfl rfl (Rd.move rfl rfl) ?_
            refine WL.case 53 rfl (fun hg53 => ?_) (fun hg53 => ?_)
            · skip
              refine WL.no rfl rfl rfl rfl rfl rfl ?_
              refine WL.no rfl rfl rfl rfl rfl rfl ?_
              refine WL.no rfl rfl rfl rfl rfl rfl ?_
              refine WL.rd_yes rfl rfl rfl rfl rfl rfl (Rd.pick_t rfl rfl rfl) ?_
              refine WL.rd rfl rfl rfl (Rd.pick_t rfl rfl rfl) ?_
              refine WL.nil ?_
              exact ⟨by repeat (first | exact Sub.nil | refine Sub.cons rfl (by first | rfl | (first | exact vb_f (by omega) | exact vb_t (by omega) | exact vb (by omega))) ?_), by first | exact (fun _ h => h.thin (SubL.mem (by repeat (first | exact SubL.refl | refine SubL.cons (by repeat (first | assumption | exact mS | apply mT)) ?_ | refine SubL.skip ?_)))) | exact (fun w h => OwnL.sat (by repeat (first | exact OwnL.refl | apply OwnL.take (by repeat (first | exact Take.head _ | apply Take.tail)) | apply OwnL.drop)) w (h.thin (SubL.mem (by repeat (first | exact SubL.refl | refine SubL.cons (by repeat (first | assumption | exact mS | apply mT)) ?_ | refine SubL.skip ?_)))))⟩
            · skip
              refine WL.rd_yes rfl rfl rfl rfl rfl rfl (Rd.move rfl rfl) ?_
              refine WL.rd_yes rfl rfl rfl rfl rfl rfl (Rd.move rfl rfl) ?_
              refine WL.rd_yes rfl rfl rfl rfl rfl rfl (Rd.lss rfl rfl rfl) ?_
              refine WL.rd_yes rfl rfl rfl rfl rfl rfl (Rd.pick_f rfl rfl rfl) ?_
              refine WL.rd rfl rfl rfl (Rd.pick_t rfl rfl rfl) ?_
              refine WL.nil ?_
              exact ⟨by repeat (first | exact Sub.nil | refine Sub.cons rfl (by first | rfl | (first | exact vb_f (by omega) | exact vb_t (by omega) | exact vb (by omega))) ?_), by first | exact (fun _ h => h.thin (SubL.mem (by repeat (first | exact SubL.refl | refine SubL.cons (by repeat (first | assumption | exact mS | apply mT)) ?_ | refine SubL.skip ?_)))) | exact (fun w h => OwnL.sat (by repeat (first | exact OwnL.refl | apply OwnL.take (by repeat (first | exact Take.head _ | apply Take.tail)) | apply OwnL.drop)) w (h.thin (SubL.mem (by repeat (first | exact SubL.refl | refine SubL.cons (by repeat (first | assumption | exact mS | apply mT)) ?_ | refine SubL.skip ?_)))))⟩
          · skip
            refine WL.no rfl rfl rfl rfl rfl rfl ?_
            refine WL.no rfl rfl rfl rfl rfl rfl ?_
            refine WL.no rfl rfl rfl rfl rfl rfl ?_
            refine WL.noU rfl rfl rfl rfl rfl rfl ?_
            refine WL.noU rfl rfl rfl rfl rfl rfl ?_
            refine WL.noU rfl rfl rfl rfl rfl rfl ?_
            refine WL.no rfl rfl rfl rfl rfl rfl ?_
            refine WL.rd rfl rfl rfl (Rd.pick_f rfl rfl rfl) ?_
            refine WL.nil ?_
            exact ⟨by repeat (first | exact Sub.nil | refine Sub.cons rfl (by first | rfl | (first | exact vb_f (by omega) | exact vb_t (by omega) | exact vb (by omega))) ?_), by first | exact (fun _ h => h.thin (SubL.mem (by repeat (first | exact SubL.refl | refine SubL.cons (by repeat (first | assumption | exact mS | apply mT)) ?_ | refine SubL.skip ?_)))) | exact (fun w h => OwnL.sat (by repeat (first | exact OwnL.refl | apply OwnL.take (by repeat (first | exact Take.head _ | apply Take.tail)) | apply OwnL.drop)) w (h.thin (SubL.mem (by repeat (first | exact SubL.refl | refine SubL.cons (by repeat (first | assumption | exact mS | apply mT)) ?_ | refine SubL.skip ?_)))))⟩
        · skip
          first | refine WC.ite rfl (fun hc4 => ?_) (fun hc4 => ?_) | refine WC.cond rfl (fun hc4 => ?_) (fun hc4 => ?_)
          · skip
            rw [if_pos hc4] at hnx
            refine WC.region ?_
            refine WL.rd rfl rfl rfl (Rd.move rfl rfl) ?_
            refine WL.rd rfl rfl rfl (Rd.assign rfl rfl) ?_
            refine WL.nil ?_
            refine blockQ.normal ?_
            refine thenQ.normal ?_
            refine WC.region ?_
            refine WL.rd rfl rfl rfl (Rd.move rfl rfl) ?_
            refine WL.rd rfl rfl rfl (Rd.add rfl rfl rfl (by omega)) ?_
            refine WL.rd rfl rfl rfl (Rd.assign rfl rfl) ?_
            refine WL.nil ?_
            exact loopQ2.mk (i + 1) (rkI l (q[i]!, q[i + 1]!)) ⟨hnx, .inl (by omega), by omega⟩ (by omega) (by repeat (first | exact Sub.nil | refine Sub.cons rfl (by first | rfl | (congr 1; omega) | assumption) ?_)) (fun w h => OwnL.sat (by repeat (first | exact OwnL.refl | apply OwnL.take (by repeat (first | exact Take.head _ | apply Take.tail)) | apply OwnL.drop)) w (h.thin (SubL.mem (by repeat (first | exact SubL.refl | refine SubL.cons (by repeat (first | assumption | exact mS | apply mT)) ?_ | refine SubL.skip ?_)))))
          · skip
            rw [if_neg hc4] at hnx
            refine WC.skip ?_
            refine blockQ.normal ?_
            refine thenQ.normal ?_
            refine WC.region ?_
            refine WL.rd rfl rfl rfl (Rd.move rfl rfl) ?_
            refine WL.rd rfl rfl rfl (Rd.add rfl rfl rfl (by omega)) ?_
            refine WL.rd rfl rfl rfl (Rd.assign rfl rfl) ?_
            refine WL.nil ?_
            exact loopQ2.mk (i + 1) k ⟨hnx, .inl (by omega), by omega⟩ (by omega) (by repeat (first | exact Sub.nil | refine Sub.cons rfl (by first | rfl | (congr 1; omega) | assumption) ?_)) (fun w h => OwnL.sat (by repeat (first | exact OwnL.refl | apply OwnL.take (by repeat (first | exact Take.head _ | apply Take.tail)) | apply OwnL.drop)) w (h.thin (SubL.mem (by repeat (first | exact SubL.refl | refine SubL.cons (by repeat (first | assumption | exact mS | apply mT)) ?_ | refine SubL.skip ?_)))))
      · skip
        refine WC.exit ?_
        refine thenQ.exit ?_
        refine loopQ2.exit ?_
        refine blockQ.exit ?_
        refine thenQ.normal ?_
        refine WC.seq ?_
        refine WC.seq ?_
        refine WC.region ?_
        refine WL.rd rfl rfl rfl (Rd.move rfl rfl) ?_
        refine WL.rd rfl rfl rfl (Rd.lss rfl rfl rfl) ?_
        refine WL.nil ?_
        refine thenQ.normal ?_
        first | refine WC.ite rfl (fun hc5 => ?_) (fun hc5 => ?_) | refine WC.cond rfl (fun hc5 => ?_) (fun hc5 => ?_)
        · skip
          refine WC.seq ?_
          refine WC.region ?_
          refine WL.rd rfl rfl rfl (Rd.move rfl rfl) ?_
          refine WL.rd rfl rfl rfl (Rd.assign rfl rfl) ?_
          refine WL.nil ?_
          refine thenQ.normal ?_
          refine WC.heap (fun w h => Sat.shareA (xs := q) (by repeat (first | assumption | exact Take.head _ | apply Take.tail)) h) ?_
          refine WC.ret (Ret.one Try.results19 rfl ?_)
          refine hk pw q (.inr ⟨by omega, m1 q (.done fun r hp => ?_)⟩)
          obtain ⟨j, hj, e⟩ := hasPair_iff.1 hp
          rcases j1 with ⟨_, h⟩ | ⟨r', rfl, _⟩
          · rw [h j (by omega)] at e; cases e
          · omega
        · skip
          obtain ⟨r, hkr, ⟨j0, hj0, hr0⟩, hmin⟩ : ∃ r : Nat, k = r ∧ (∃ j, j < i ∧ rk l (q[j]!, q[j + 1]!) = some r) ∧ ∀ j r', j < i → rk l (q[j]!, q[j + 1]!) = some r' → r ≤ r' := by
            rcases j1 with ⟨h, _⟩ | h
            · omega
            · exact h
          have hrl := (rk_at hr0).1
          have hpair : HasPair l q r := hasPair_iff.2 ⟨j0, by omega, hr0⟩
          have hleast : ∀ r', HasPair l q r' → r ≤ r' := fun r' h => by
            obtain ⟨j, hj, e⟩ := hasPair_iff.1 h
            exact hmin j r' (by omega) e
          have hlt : (pass l[r]!.1 l[r]!.2 q).length < q.length := by
            have e : l[r]! = (q[j0]!, q[j0 + 1]!) := (rk_at hr0).2.1
            rw [e]
            have e2 : q = q.take j0 ++ q[j0]! :: q[j0 + 1]! :: q.drop (j0 + 2) := by rw [← drop_get (l := q) (j := j0 + 1) (by omega), ← drop_get (by omega), List.take_append_drop]
            generalize q[j0]! = A at *
            generalize q[j0 + 1]! = B at *
            rw [e2]; exact pass_lt
          refine WC.say 7 (u := vi r) rfl (by rw [hkr]) ?_
          refine WC.heap (fun w h => Sat.accNil (e := 9) (size := 1) (enc := one vs) h) ?_
          refine WC.skip ?_
          refine thenQ.normal ?_
          refine WC.seq ?_
          refine WC.region ?_
          refine WL.rd rfl rfl rfl (Rd.assign rfl rfl) ?_
          refine WL.nil ?_
          refine thenQ.normal ?_
          refine WC.seq ?_
          refine WC.seq ?_
          refine WC.region ?_
          refine WL.rd rfl rfl rfl (Rd.assign rfl rfl) ?_
          refine WL.nil ?_
          refine thenQ.normal ?_
          refine WC.block ?_
          refine WC.pick [10, 11, 0, 5, 7] (by repeat (first | exact Pick.nil | apply Pick.cons rfl)) ?_
          refine WC.loop3 2 (fun (i : Nat) (ys : List T) (nv : Value) => [(10, nv), (11, vi i)]) (fun (i : Nat) (ys : List T) (nv : Value) => accT nv ys :: accT pw q :: O) (fun (i : Nat) (ys : List T) (nv : Value) => ys ++ pass l[r]!.1 l[r]!.2 (q.drop i) = pass l[r]!.1 l[r]!.2 q ∧ i ≤ q.length ∧ ys.length ≤ i) (fun (i : Nat) (ys : List T) (nv : Value) => q.length - i) (0) ([]) (nilS) (by repeat (first | exact Split.zero | apply Split.succ)) ?hinv4 (by repeat (first | exact Sub.nil | refine Sub.cons rfl (by first | rfl | (congr 1; omega) | assumption) ?_)) (fun _ h => h) ?_
          case hinv4 =>
            exact ⟨rfl, Nat.zero_le _, Nat.le_refl _⟩
          intro i ys nv
          rintro ⟨n1, n2, n3⟩
          refine WC.seq ?_
          refine WC.seq ?_
          refine WC.region ?_
          refine WL.rd rfl rfl rfl (Rd.move rfl rfl) ?_
          refine WL.rd rfl rfl rfl (Rd.move rfl rfl) ?_
          refine WL.rd rfl rfl rfl ((by first | exact Rd.lenE rfl rfl Try.underlying38 (by repeat (first | assumption | exact mS | apply mT)) | exact Rd.lenA rfl rfl Try.underlying38 (by repeat (first | assumption | exact mS | apply mT)) | exact Rd.len rfl rfl Try.underlying38)) ?_
          refine WL.rd rfl rfl rfl (Rd.lss rfl rfl rfl) ?_
          refine WL.nil ?_
          refine thenQ.normal ?_
          first | refine WC.ite rfl (fun hc6 => ?_) (fun hc6 => ?_) | refine WC.cond rfl (fun hc6 => ?_) (fun hc6 => ?_)
          · skip
            refine WC.skip ?_
            refine thenQ.normal ?_
            refine WC.seq ?_
            refine WC.block ?_
            refine WC.pick [0, 5, 7, 10, 11] (by repeat (first | exact Pick.nil | apply Pick.cons rfl)) ?_
            refine WC.val 98 (.bool (decide (i + 1 < q.length ∧ q[i]! = l[r]!.1 ∧ q[i + 1]! = l[r]!.2))) ?_ ?_
            · skip
              refine WC.still mixed (by kernel_rfl) ?_
              refine WA.rd rfl rfl rfl (Rd.move rfl rfl) ?_
              refine WA.rd rfl rfl rfl (Rd.add rfl rfl rfl (by omega)) ?_
              refine WA.rd rfl rfl rfl (Rd.move rfl rfl) ?_
              refine WA.rd rfl rfl rfl ((by first | exact Rd.lenE rfl rfl Try.underlying38 (by repeat (first | assumption | exact mS | apply mT)) | exact Rd.lenA rfl rfl Try.underlying38 (by repeat (first | assumption | exact mS | apply mT)) | exact Rd.len rfl rfl Try.underlying38)) ?_
              refine WA.rd rfl rfl rfl (Rd.lss rfl rfl rfl) ?_
              refine WA.rd rfl rfl rfl (Rd.move rfl rfl) ?_
              refine WA.case 74 rfl (fun hg74 => ?_) (fun hg74 => ?_)
              · skip
                refine WA.rd_yes rfl rfl rfl rfl rfl rfl (Rd.move rfl rfl) ?_
                refine WA.rd_yes rfl rfl rfl rfl rfl rfl (Rd.move rfl rfl) ?_
                refine WA.rd_yes rfl rfl rfl rfl rfl rfl ((by first | exact Rd.idx1 (k := i) rfl S38 rfl rfl (by omega) (by repeat (first | assumption | exact mS | apply mT)) (by first | omega | (simp only [List.length_cons, List.length_nil, List.length_append, List.length_map]; omega)) | exact Rd.idxA1 (k := i) rfl S38 rfl rfl (by omega) (by repeat (first | assumption | exact mS | apply mT)) (by first | omega | (simp only [List.length_cons, List.length_nil, List.length_append, List.length_map]; omega)) | exact Rd.idxR1 (k := i) rfl S38 rfl rfl (by omega) (by omega))) ?_
                refine WA.rd_yes rfl rfl rfl rfl rfl rfl (Rd.getA (g := vs) (xs := q) (k := i) (a := q[i]!) rfl C9 rfl (by repeat (first | assumption | exact mS | apply mT)) (get!_of_lt (by omega))) ?_
                refine WA.rd_yes rfl rfl rfl rfl rfl rfl (Rd.move rfl rfl) ?_
                refine WA.rd_yes rfl rfl rfl rfl rfl rfl (Rd.move rfl rfl) ?_
                refine WA.rd_yes rfl rfl rfl rfl rfl rfl ((by first | exact Rd.idx (k := r) rfl S30 rfl rfl (by omega) (by repeat (first | assumption | exact mS | apply mT)) (by first | omega | (simp only [List.length_cons, List.length_nil, List.length_append, List.length_map]; omega)) | exact Rd.idxA (k := r) rfl S30 rfl rfl (by omega) (by repeat (first | assumption | exact mS | apply mT)) (by first | omega | (simp only [List.length_cons, List.length_nil, List.length_append, List.length_map]; omega)) | exact Rd.idxR (k := r) rfl S30 rfl rfl (by omega) (by omega))) ?_
                refine WA.rd_yes rfl rfl rfl rfl rfl rfl ((by first | exact Rd.field rfl F48_0 rfl rfl | exact Rd.fieldE rfl F48_0 rfl (by repeat (first | assumption | exact mS | apply mT)) (by omega) | exact Rd.fieldA rfl F48_0 rfl (by repeat (first | assumption | exact mS | apply mT)) (by omega))) ?_
                refine WA.rd_yes rfl rfl rfl rfl rfl rfl (Rd.getF (enc := encP) (size := 2) (xs := l) (k := r) (f := 0) (a := l[r]!) (u := vs l[r]!.1) rfl C9 rfl hR (fun x => rfl) (by omega) (get!_of_lt hrl) rfl) ?_
                refine WA.rd_yes rfl rfl rfl rfl rfl rfl (Rd.seql rfl rfl rfl) ?_
                refine WA.rd rfl rfl rfl (Rd.pick_t rfl rfl rfl) ?_
                refine WA.rd rfl rfl rfl (Rd.move rfl rfl) ?_
                refine WA.case 86 rfl (fun hg86 => ?_) (fun hg86 => ?_)
                · skip
                  refine WA.rd_yes rfl rfl rfl rfl rfl rfl (Rd.move rfl rfl) ?_
                  refine WA.rd_yes rfl rfl rfl rfl rfl rfl (Rd.move rfl rfl) ?_
                  refine WA.rd_yes rfl rfl rfl rfl rfl rfl (Rd.add rfl rfl rfl (by omega)) ?_
                  refine WA.rd_yes rfl rfl rfl rfl rfl rfl ((by first | exact Rd.idx1 (k := i + 1) rfl S38 rfl rfl (by omega) (by repeat (first | assumption | exact mS | apply mT)) (by first | omega | (simp only [List.length_cons, List.length_nil, List.length_append, List.length_map]; omega)) | exact Rd.idxA1 (k := i + 1) rfl S38 rfl rfl (by omega) (by repeat (first | assumption | exact mS | apply mT)) (by first | omega | (simp only [List.length_cons, List.length_nil, List.length_append, List.length_map]; omega)) | exact Rd.idxR1 (k := i + 1) rfl S38 rfl rfl (by omega) (by omega))) ?_
                  refine WA.rd_yes rfl rfl rfl rfl rfl rfl (Rd.getA (g := vs) (xs := q) (k := i + 1) (a := q[i + 1]!) rfl C9 rfl (by repeat (first | assumption | exact mS | apply mT)) (get!_of_lt (by omega))) ?_
                  refine WA.rd_yes rfl rfl rfl rfl rfl rfl (Rd.move rfl rfl) ?_
                  refine WA.rd_yes rfl rfl rfl rfl rfl rfl (Rd.move rfl rfl) ?_
                  refine WA.rd_yes rfl rfl rfl rfl rfl rfl ((by first | exact Rd.idx (k := r) rfl S30 rfl rfl (by omega) (by repeat (first | assumption | exact mS | apply mT)) (by first | omega | (simp only [List.length_cons, List.length_nil, List.length_append, List.length_map]; omega)) | exact Rd.idxA (k := r) rfl S30 rfl rfl (by omega) (by repeat (first | assumption | exact mS | apply mT)) (by first | omega | (simp only [List.length_cons, List.length_nil, List.length_append, List.length_map]; omega)) | exact Rd.idxR (k := r) rfl S30 rfl rfl (by omega) (by omega))) ?_
                  refine WA.rd_yes rfl rfl rfl rfl rfl rfl ((by first | exact Rd.field rfl F48_1 rfl rfl | exact Rd.fieldE rfl F48_1 rfl (by repeat (first | assumption | exact mS | apply mT)) (by omega) | exact Rd.fieldA rfl F48_1 rfl (by repeat (first | assumption | exact mS | apply mT)) (by omega))) ?_
                  refine WA.rd_yes rfl rfl rfl rfl rfl rfl (Rd.getF (enc := encP) (size := 2) (xs := l) (k := r) (f := 1) (a := l[r]!) (u := vs l[r]!.2) rfl C9 rfl hR (fun x => rfl) (by omega) (get!_of_lt hrl) rfl) ?_
                  refine WA.rd_yes rfl rfl rfl rfl rfl rfl (Rd.seql rfl rfl rfl) ?_
                  refine WA.rd rfl rfl rfl (Rd.pick_t rfl rfl rfl) ?_
                  refine WA.nil ?_
                  exact ⟨by repeat (first | exact Sub.nil | refine Sub.cons rfl (by first | rfl | (first | exact vb_f (by omega) | exact vb_f (fun h => hg86 h.2.1) | exact vb ⟨fun h => ⟨by omega, hg86, h⟩, fun h => h.2.2⟩)) ?_), by first | exact (fun _ h => h.thin (SubL.mem (by repeat (first | exact SubL.refl | refine SubL.cons (by repeat (first | assumption | exact mS | apply mT)) ?_ | refine SubL.skip ?_)))) | exact (fun w h => OwnL.sat (by repeat (first | exact OwnL.refl | apply OwnL.take (by repeat (first | exact Take.head _ | apply Take.tail)) | apply OwnL.drop)) w (h.thin (SubL.mem (by repeat (first | exact SubL.refl | refine SubL.cons (by repeat (first | assumption | exact mS | apply mT)) ?_ | refine SubL.skip ?_)))))⟩
                · skip
                  refine WA.no rfl rfl rfl rfl rfl rfl ?_
                  refine WA.no rfl rfl rfl rfl rfl rfl ?_
                  refine WA.no rfl rfl rfl rfl rfl rfl ?_
                  refine WA.no rfl rfl rfl rfl rfl rfl ?_
                  refine WA.no rfl rfl rfl rfl rfl rfl ?_
                  refine WA.no rfl rfl rfl rfl rfl rfl ?_
                  refine WA.no rfl rfl rfl rfl rfl rfl ?_
                  refine WA.no rfl rfl rfl rfl rfl rfl ?_
                  refine WA.no rfl rfl rfl rfl rfl rfl ?_
                  refine WA.no rfl rfl rfl rfl rfl rfl ?_
                  refine WA.no rfl rfl rfl rfl rfl rfl ?_
                  refine WA.rd rfl rfl rfl (Rd.pick_f rfl rfl rfl) ?_
                  refine WA.nil ?_
                  exact ⟨by repeat (first | exact Sub.nil | refine Sub.cons rfl (by first | rfl | (first | exact vb_f (by omega) | exact vb_f (fun h => hg86 h.2.1) | exact vb ⟨fun h => ⟨by omega, hg86, h⟩, fun h => h.2.2⟩)) ?_), by first | exact (fun _ h => h.thin (SubL.mem (by repeat (first | exact SubL.refl | refine SubL.cons (by repeat (first | assumption | exact mS | apply mT)) ?_ | refine SubL.skip ?_)))) | exact (fun w h => OwnL.sat (by repeat (first | exact OwnL.refl | apply OwnL.take (by repeat (first | exact Take.head _ | apply Take.tail)) | apply OwnL.drop)) w (h.thin (SubL.mem (by repeat (first | exact SubL.refl | refine SubL.cons (by repeat (first | assumption | exact mS | apply mT)) ?_ | refine SubL.skip ?_)))))⟩
              · skip
                refine WA.no rfl rfl rfl rfl rfl rfl ?_
                refine WA.no rfl rfl rfl rfl rfl rfl ?_
                refine WA.no rfl rfl rfl rfl rfl rfl ?_
                refine WA.no rfl rfl rfl rfl rfl rfl ?_
                refine WA.no rfl rfl rfl rfl rfl rfl ?_
                refine WA.no rfl rfl rfl rfl rfl rfl ?_
                refine WA.no rfl rfl rfl rfl rfl rfl ?_
                refine WA.no rfl rfl rfl rfl rfl rfl ?_
                refine WA.no rfl rfl rfl rfl rfl rfl ?_
                refine WA.no rfl rfl rfl rfl rfl rfl ?_
                refine WA.rd rfl rfl rfl (Rd.pick_f rfl rfl rfl) ?_
                refine WA.rd rfl rfl rfl (Rd.move rfl rfl) ?_
                refine WA.no rfl rfl rfl rfl rfl rfl ?_
                refine WA.no rfl rfl rfl rfl rfl rfl ?_
                refine WA.no rfl rfl rfl rfl rfl rfl ?_
                refine WA.no rfl rfl rfl rfl rfl rfl ?_
                refine WA.no rfl rfl rfl rfl rfl rfl ?_
                refine WA.no rfl rfl rfl rfl rfl rfl ?_
                refine WA.no rfl rfl rfl rfl rfl rfl ?_
                refine WA.no rfl rfl rfl rfl rfl rfl ?_
                refine WA.no rfl rfl rfl rfl rfl rfl ?_
                refine WA.no rfl rfl rfl rfl rfl rfl ?_
                refine WA.no rfl rfl rfl rfl rfl rfl ?_
                refine WA.rd rfl rfl rfl (Rd.pick_f rfl rfl rfl) ?_
                refine WA.nil ?_
                exact ⟨by repeat (first | exact Sub.nil | refine Sub.cons rfl (by first | rfl | (first | exact vb_f (by omega) | exact vb_f (fun h => hg86 h.2.1) | exact vb ⟨fun h => ⟨by omega, hg86, h⟩, fun h => h.2.2⟩)) ?_), by first | exact (fun _ h => h.thin (SubL.mem (by repeat (first | exact SubL.refl | refine SubL.cons (by repeat (first | assumption | exact mS | apply mT)) ?_ | refine SubL.skip ?_)))) | exact (fun w h => OwnL.sat (by repeat (first | exact OwnL.refl | apply OwnL.take (by repeat (first | exact Take.head _ | apply Take.tail)) | apply OwnL.drop)) w (h.thin (SubL.mem (by repeat (first | exact SubL.refl | refine SubL.cons (by repeat (first | assumption | exact mS | apply mT)) ?_ | refine SubL.skip ?_)))))⟩
            · skip
              first | refine WC.ite rfl (fun hc7 => ?_) (fun hc7 => ?_) | refine WC.cond rfl (fun hc7 => ?_) (fun hc7 => ?_)
              · skip
                have hp := pass_drop_yes hc7.1 hc7.2.1 hc7.2.2
                have hfl := mem_flat_len2 m3 hc7.1
                rw [hp] at n1
                refine WC.seq ?_
                refine WC.drawn (accT pw q :: O) 14 rfl mixed ?_
                refine WD.take 0 rfl (by kernel_rfl) (Held.mk' (by repeat (first | exact SubL.refl | refine SubL.cons (by repeat (first | assumption | exact mS | apply mT)) ?_ | refine SubL.skip ?_)) (by repeat (first | exact OwnL.refl | apply OwnL.take (by repeat (first | exact Take.head _ | apply Take.tail)) | apply OwnL.drop))) rfl rfl rfl (Rd.move rfl rfl) ?_
                refine WD.take 1 rfl (by kernel_rfl) (Held.mk' (by repeat (first | exact SubL.refl | refine SubL.cons (by repeat (first | assumption | exact mS | apply mT)) ?_ | refine SubL.skip ?_)) (by repeat (first | exact OwnL.refl | apply OwnL.take (by repeat (first | exact Take.head _ | apply Take.tail)) | apply OwnL.drop))) rfl rfl rfl (Rd.move rfl rfl) ?_
                refine WD.take 2 rfl (by kernel_rfl) (Held.mk' (by repeat (first | exact SubL.refl | refine SubL.cons (by repeat (first | assumption | exact mS | apply mT)) ?_ | refine SubL.skip ?_)) (by repeat (first | exact OwnL.refl | apply OwnL.take (by repeat (first | exact Take.head _ | apply Take.tail)) | apply OwnL.drop))) rfl rfl rfl (Rd.move rfl rfl) ?_
                refine WD.take 3 rfl (by kernel_rfl) (Held.mk' (by repeat (first | exact SubL.refl | refine SubL.cons (by repeat (first | assumption | exact mS | apply mT)) ?_ | refine SubL.skip ?_)) (by repeat (first | exact OwnL.refl | apply OwnL.take (by repeat (first | exact Take.head _ | apply Take.tail)) | apply OwnL.drop))) rfl rfl rfl ((by first | exact Rd.idx1 (k := i) rfl S38 rfl rfl (by omega) (by repeat (first | assumption | exact mS | apply mT)) (by first | omega | (simp only [List.length_cons, List.length_nil, List.length_append, List.length_map]; omega)) | exact Rd.idxA1 (k := i) rfl S38 rfl rfl (by omega) (by repeat (first | assumption | exact mS | apply mT)) (by first | omega | (simp only [List.length_cons, List.length_nil, List.length_append, List.length_map]; omega)) | exact Rd.idxR1 (k := i) rfl S38 rfl rfl (by omega) (by omega))) ?_
                refine WD.take 4 rfl (by kernel_rfl) (Held.mk' (by repeat (first | exact SubL.refl | refine SubL.cons (by repeat (first | assumption | exact mS | apply mT)) ?_ | refine SubL.skip ?_)) (by repeat (first | exact OwnL.refl | apply OwnL.take (by repeat (first | exact Take.head _ | apply Take.tail)) | apply OwnL.drop))) rfl rfl rfl (Rd.getA (g := vs) (xs := q) (k := i) (a := q[i]!) rfl C9 rfl (by repeat (first | assumption | exact mS | apply mT)) (get!_of_lt (by omega))) ?_
                refine WD.take 5 rfl (by kernel_rfl) (Held.mk' (by repeat (first | exact SubL.refl | refine SubL.cons (by repeat (first | assumption | exact mS | apply mT)) ?_ | refine SubL.skip ?_)) (by repeat (first | exact OwnL.refl | apply OwnL.take (by repeat (first | exact Take.head _ | apply Take.tail)) | apply OwnL.drop))) rfl rfl rfl (Rd.move rfl rfl) ?_
                refine WD.take 6 rfl (by kernel_rfl) (Held.mk' (by repeat (first | exact SubL.refl | refine SubL.cons (by repeat (first | assumption | exact mS | apply mT)) ?_ | refine SubL.skip ?_)) (by repeat (first | exact OwnL.refl | apply OwnL.take (by repeat (first | exact Take.head _ | apply Take.tail)) | apply OwnL.drop))) rfl rfl rfl (Rd.move rfl rfl) ?_
                refine WD.take 7 rfl (by kernel_rfl) (Held.mk' (by repeat (first | exact SubL.refl | refine SubL.cons (by repeat (first | assumption | exact mS | apply mT)) ?_ | refine SubL.skip ?_)) (by repeat (first | exact OwnL.refl | apply OwnL.take (by repeat (first | exact Take.head _ | apply Take.tail)) | apply OwnL.drop))) rfl rfl rfl (Rd.add rfl rfl rfl (by omega)) ?_
                refine WD.take 8 rfl (by kernel_rfl) (Held.mk' (by repeat (first | exact SubL.refl | refine SubL.cons (by repeat (first | assumption | exact mS | apply mT)) ?_ | refine SubL.skip ?_)) (by repeat (first | exact OwnL.refl | apply OwnL.take (by repeat (first | exact Take.head _ | apply Take.tail)) | apply OwnL.drop))) rfl rfl rfl ((by first | exact Rd.idx1 (k := i + 1) rfl S38 rfl rfl (by omega) (by repeat (first | assumption | exact mS | apply mT)) (by first | omega | (simp only [List.length_cons, List.length_nil, List.length_append, List.length_map]; omega)) | exact Rd.idxA1 (k := i + 1) rfl S38 rfl rfl (by omega) (by repeat (first | assumption | exact mS | apply mT)) (by first | omega | (simp only [List.length_cons, List.length_nil, List.length_append, List.length_map]; omega)) | exact Rd.idxR1 (k := i + 1) rfl S38 rfl rfl (by omega) (by omega))) ?_
                refine WD.take 9 rfl (by kernel_rfl) (Held.mk' (by repeat (first | exact SubL.refl | refine SubL.cons (by repeat (first | assumption | exact mS | apply mT)) ?_ | refine SubL.skip ?_)) (by repeat (first | exact OwnL.refl | apply OwnL.take (by repeat (first | exact Take.head _ | apply Take.tail)) | apply OwnL.drop))) rfl rfl rfl (Rd.getA (g := vs) (xs := q) (k := i + 1) (a := q[i + 1]!) rfl C9 rfl (by repeat (first | assumption | exact mS | apply mT)) (get!_of_lt (by omega))) ?_
                refine WD.take 10 rfl (by kernel_rfl) (Held.mk' (by repeat (first | exact SubL.refl | refine SubL.cons (by repeat (first | assumption | exact mS | apply mT)) ?_ | refine SubL.skip ?_)) (by repeat (first | exact OwnL.refl | apply OwnL.take (by repeat (first | exact Take.head _ | apply Take.tail)) | apply OwnL.drop))) rfl rfl rfl (Rd.scat rfl rfl rfl (by omega)) ?_
                refine WD.one 11 rfl (by kernel_rfl) rfl ?_
                refine OpW.buildSl (ps := [(0, _)]) rfl S38 (by repeat (first | exact Evs.nil | apply Evs.cons rfl)) rfl rfl (by repeat (first | exact CellsOf.nil | apply CellsOf.cons rfl)) (by kernel_rfl) rfl rfl rfl ?_; intro b110
                refine ⟨(Held.mk' (by repeat (first | exact SubL.refl | refine SubL.cons (by repeat (first | assumption | exact mS | apply mT)) ?_ | refine SubL.skip ?_)) (by repeat (first | exact OwnL.refl | apply OwnL.take (by repeat (first | exact Take.head _ | apply Take.tail)) | apply OwnL.drop))), ?_⟩
                refine WD.one 12 rfl (by kernel_rfl) rfl ?_
                refine OpW.appendRow (enc := one vs) rfl S38 rfl rfl (by repeat (first | assumption | exact Take.head _ | apply Take.tail)) (by repeat (first | assumption | exact Take.head _ | apply Take.tail)) [q[i]! ++ q[i + 1]!] rfl (by rfl) rfl (by intro x; first | rfl | (cases x; rfl) | (rcases x with ⟨_, _, _⟩; rfl) | (rcases x with ⟨_, _, _, _⟩; rfl)) (by intro x; first | rfl | (cases x; rfl) | (rcases x with ⟨_, _, _⟩; rfl) | (rcases x with ⟨_, _, _, _⟩; rfl)) ⟨by simp only [maxLen, List.length_append, List.length_nil, List.length_cons, List.length_drop, List.length_take, List.length_map]; omega, by first | omega | (simp only [List.length_append, List.length_nil, List.length_cons, List.length_drop, List.length_take, List.length_map]; omega)⟩ rfl rfl ?_; intro v111 hv111
                refine ⟨(Held.mk' (by repeat (first | exact SubL.refl | refine SubL.cons (by repeat (first | assumption | exact mS | apply mT)) ?_ | refine SubL.skip ?_)) (by repeat (first | exact OwnL.refl | apply OwnL.take (by repeat (first | exact Take.head _ | apply Take.tail)) | apply OwnL.drop))), ?_⟩
                refine WD.take 13 rfl (by kernel_rfl) (Held.mk' (by repeat (first | exact SubL.refl | refine SubL.cons (by repeat (first | assumption | exact mS | apply mT)) ?_ | refine SubL.skip ?_)) (by repeat (first | exact OwnL.refl | apply OwnL.take (by repeat (first | exact Take.head _ | apply Take.tail)) | apply OwnL.drop))) rfl rfl rfl (Rd.assign rfl rfl) ?_
                refine WD.done (by kernel_rfl) ?_
                refine thenQ.normal ?_
                refine WC.region ?_
                refine WL.rd rfl rfl rfl (Rd.move rfl rfl) ?_
                refine WL.rd rfl rfl rfl (Rd.add rfl rfl rfl (by omega)) ?_
                refine WL.rd rfl rfl rfl (Rd.assign rfl rfl) ?_
                refine WL.nil ?_
                refine blockQ.normal ?_
                refine thenQ.normal ?_
                refine WC.region ?_
                refine WL.rd rfl rfl rfl (Rd.move rfl rfl) ?_
                refine WL.rd rfl rfl rfl (Rd.add rfl rfl rfl (by omega)) ?_
                refine WL.rd rfl rfl rfl (Rd.assign rfl rfl) ?_
                refine WL.nil ?_
                exact loopQ3.mk (i + 2) (ys ++ [q[i]! ++ q[i + 1]!]) v111 ⟨by rw [← n1, List.append_assoc]; rfl, by omega, by rw [List.length_append]; simp; omega⟩ (by omega) (by repeat (first | exact Sub.nil | refine Sub.cons rfl (by first | rfl | (congr 1; omega) | assumption) ?_)) (fun w h => OwnL.sat (by repeat (first | exact OwnL.refl | apply OwnL.take (by repeat (first | exact Take.head _ | apply Take.tail)) | apply OwnL.drop)) w (h.thin (SubL.mem (by repeat (first | exact SubL.refl | refine SubL.cons (by repeat (first | assumption | exact mS | apply mT)) ?_ | refine SubL.skip ?_)))))
              · skip
                have hp := pass_drop_no (A := l[r]!.1) (B := l[r]!.2) (q := q) (i := i) (by omega) hc7
                rw [hp] at n1
                refine WC.region ?_
                refine WL.rd rfl rfl rfl (Rd.move rfl rfl) ?_
                refine WL.rd rfl rfl rfl (Rd.move rfl rfl) ?_
                refine WL.rd rfl rfl rfl (Rd.move rfl rfl) ?_
                refine WL.rd rfl rfl rfl ((by first | exact Rd.idx1 (k := i) rfl S38 rfl rfl (by omega) (by repeat (first | assumption | exact mS | apply mT)) (by first | omega | (simp only [List.length_cons, List.length_nil, List.length_append, List.length_map]; omega)) | exact Rd.idxA1 (k := i) rfl S38 rfl rfl (by omega) (by repeat (first | assumption | exact mS | apply mT)) (by first | omega | (simp only [List.length_cons, List.length_nil, List.length_append, List.length_map]; omega)) | exact Rd.idxR1 (k := i) rfl S38 rfl rfl (by omega) (by omega))) ?_
                refine WL.rd rfl rfl rfl (Rd.getA (g := vs) (xs := q) (k := i) (a := q[i]!) rfl C9 rfl (by repeat (first | assumption | exact mS | apply mT)) (get!_of_lt (by omega))) ?_
                refine WL.op rfl ?_
                refine OpW.buildSl (ps := [(0, _)]) rfl S38 (by repeat (first | exact Evs.nil | apply Evs.cons rfl)) rfl rfl (by repeat (first | exact CellsOf.nil | apply CellsOf.cons rfl)) (by kernel_rfl) rfl rfl rfl ?_; intro b119
                refine WL.op rfl ?_
                refine OpW.appendRow (enc := one vs) rfl S38 rfl rfl (by repeat (first | assumption | exact Take.head _ | apply Take.tail)) (by repeat (first | assumption | exact Take.head _ | apply Take.tail)) [q[i]!] rfl (by rfl) rfl (by intro x; first | rfl | (cases x; rfl) | (rcases x with ⟨_, _, _⟩; rfl) | (rcases x with ⟨_, _, _, _⟩; rfl)) (by intro x; first | rfl | (cases x; rfl) | (rcases x with ⟨_, _, _⟩; rfl) | (rcases x with ⟨_, _, _, _⟩; rfl)) ⟨by simp only [maxLen, List.length_append, List.length_nil, List.length_cons, List.length_drop, List.length_take, List.length_map]; omega, by first | omega | (simp only [List.length_append, List.length_nil, List.length_cons, List.length_drop, List.length_take, List.length_map]; omega)⟩ rfl rfl ?_; intro v120 hv120
                refine WL.rd rfl rfl rfl (Rd.assign rfl rfl) ?_
                refine WL.nil ?_
                refine blockQ.normal ?_
                refine thenQ.normal ?_
                refine WC.region ?_
                refine WL.rd rfl rfl rfl (Rd.move rfl rfl) ?_
                refine WL.rd rfl rfl rfl (Rd.add rfl rfl rfl (by omega)) ?_
                refine WL.rd rfl rfl rfl (Rd.assign rfl rfl) ?_
                refine WL.nil ?_
                exact loopQ3.mk (i + 1) (ys ++ [q[i]!]) v120 ⟨by rw [← n1, List.append_assoc]; rfl, by omega, by rw [List.length_append]; simp; omega⟩ (by omega) (by repeat (first | exact Sub.nil | refine Sub.cons rfl (by first | rfl | (congr 1; omega) | assumption) ?_)) (fun w h => OwnL.sat (by repeat (first | exact OwnL.refl | apply OwnL.take (by repeat (first | exact Take.head _ | apply Take.tail)) | apply OwnL.drop)) w (h.thin (SubL.mem (by repeat (first | exact SubL.refl | refine SubL.cons (by repeat (first | assumption | exact mS | apply mT)) ?_ | refine SubL.skip ?_)))))
          · skip
            obtain rfl : i = q.length := by omega
            rw [List.drop_length, pass, List.append_nil] at n1
            refine WC.exit ?_
            refine thenQ.exit ?_
            refine loopQ3.exit ?_
            refine blockQ.exit ?_
            refine thenQ.normal ?_
            refine WC.region ?_
            refine WL.rd rfl rfl rfl (Rd.move rfl rfl) ?_
            refine WL.rd rfl rfl rfl (Rd.assign rfl rfl) ?_
            refine WL.nil ?_
            refine blockQ.normal ?_
            exact loopQ2.mk ys nv ⟨fun out h => m1 out (.step hpair hleast (n1 ▸ h)), by rw [n1]; omega, by rw [n1, pass_join]; exact m3⟩ (by rw [n1]; exact hlt) (by repeat (first | exact Sub.nil | refine Sub.cons rfl (by first | rfl | (congr 1; omega) | assumption) ?_)) (fun w h => OwnL.sat (by repeat (first | exact OwnL.refl | apply OwnL.take (by repeat (first | exact Take.head _ | apply Take.tail)) | apply OwnL.drop)) w (h.thin (SubL.mem (by repeat (first | exact SubL.refl | refine SubL.cons (by repeat (first | assumption | exact mS | apply mT)) ?_ | refine SubL.skip ?_)))))
set_option maxRecDepth 20000 in
theorem pairs_spec {xs : List Pr} (hl : SlE encP lv xs ∈ R) (hk : ∀ va vb, POST (.tuple #[va, vb]) (SlE encP va (xs.take 60) :: SlE encP vb (xs.take 60) :: R) O) : Fun Try.prog 12 #[lv] R O POST := by
  refine Fun.len hl fun hll => ?_
  refine Fun.enter (l := [_]) Try.func12 rfl Try.ntmps12 rfl (L0 := [(0, _)]) rfl ?_
  refine WC.heap (R' := R) (O' := accP nilS [] :: accQ nilS [] :: O) (fun w h => h.accNil.accNil) ?_
  refine WC.seq ?_
  refine WC.region ?_
  refine WL.rd rfl rfl rfl (Rd.assign rfl rfl) ?_
  refine WL.rd rfl rfl rfl (Rd.assign rfl rfl) ?_
  refine WL.nil ?_
  refine thenQ.normal ?_
  refine WC.seq ?_
  refine WC.region ?_
  refine WL.rd rfl rfl rfl (Rd.assign rfl rfl) ?_
  refine WL.nil ?_
  refine thenQ.normal ?_
  refine WC.seq ?_
  refine WC.region ?_
  refine WL.rd rfl rfl rfl (Rd.assign rfl rfl) ?_
  refine WL.nil ?_
  refine thenQ.normal ?_
  refine WC.seq ?_
  refine WC.seq ?_
  refine WC.region ?_
  refine WL.rd rfl rfl rfl (Rd.assign rfl rfl) ?_
  refine WL.nil ?_
  refine thenQ.normal ?_
  refine WC.block ?_
  refine WC.pick [4, 5, 6, 0] (by repeat (first | exact Pick.nil | apply Pick.cons rfl)) ?_
  refine WC.loop3 3 (fun (i : Nat) (xa : Value) (xb : Value) => [(4, xa), (5, xb), (6, .int .i64 (i : Int))]) (fun (i : Nat) (xa : Value) (xb : Value) => accP xa (xs.take i) :: accQ xb (xs.take i) :: O) (fun (i : Nat) (xa : Value) (xb : Value) => i ≤ xs.length ∧ i ≤ 60) (fun (i : Nat) (xa : Value) (xb : Value) => xs.length - i) (0) (nilS) (nilS) (by repeat (first | exact Split.zero | apply Split.succ)) ?hinv1 (by repeat (first | exact Sub.nil | refine Sub.cons rfl (by first | rfl | (congr 1; omega) | assumption) ?_)) (fun _ h => h) ?_
  case hinv1 =>
    exact ⟨Nat.zero_le _, Nat.zero_le _⟩
  intro i xa xb
  rintro ⟨i1, i2⟩
  refine WC.seq ?_
  refine WC.pick [0, 4, 5, 6] (by repeat (first | exact Pick.nil | apply Pick.cons rfl)) ?_
  refine WC.val 16 (.bool (decide (i < xs.length ∧ i < 60))) ?_ ?_
  · skip
    refine WC.region ?_
    refine WL.rd rfl rfl rfl (Rd.move rfl rfl) ?_
    refine WL.rd rfl rfl rfl (Rd.move rfl rfl) ?_
    refine WL.rd rfl rfl rfl ((by first | exact Rd.lenE rfl rfl Try.underlying29 (by repeat (first | assumption | exact mS | apply mT)) | exact Rd.lenA rfl rfl Try.underlying29 (by repeat (first | assumption | exact mS | apply mT)) | exact Rd.len rfl rfl Try.underlying29)) ?_
    refine WL.rd rfl rfl rfl (Rd.lss rfl rfl rfl) ?_
    refine WL.rd rfl rfl rfl (Rd.move rfl rfl) ?_
    refine WL.case 13 rfl (fun hg13 => ?_) (fun hg13 => ?_)
    · skip
      refine WL.rd_yes rfl rfl rfl rfl rfl rfl (Rd.move rfl rfl) ?_
      refine WL.rd_yes rfl rfl rfl rfl rfl rfl (Rd.lss rfl rfl rfl) ?_
      refine WL.rd rfl rfl rfl (Rd.pick_t rfl rfl rfl) ?_
      refine WL.nil ?_
      exact ⟨by repeat (first | exact Sub.nil | refine Sub.cons rfl (by first | rfl | (first | exact vb ⟨fun h => ⟨by omega, by omega⟩, fun h => by omega⟩ | exact vb_f (by omega))) ?_), by first | exact (fun _ h => h.thin (SubL.mem (by repeat (first | exact SubL.refl | refine SubL.cons (by repeat (first | assumption | exact mS | apply mT)) ?_ | refine SubL.skip ?_)))) | exact (fun w h => OwnL.sat (by repeat (first | exact OwnL.refl | apply OwnL.take (by repeat (first | exact Take.head _ | apply Take.tail)) | apply OwnL.drop)) w (h.thin (SubL.mem (by repeat (first | exact SubL.refl | refine SubL.cons (by repeat (first | assumption | exact mS | apply mT)) ?_ | refine SubL.skip ?_)))))⟩
    · skip
      refine WL.no rfl rfl rfl rfl rfl rfl ?_
      refine WL.no rfl rfl rfl rfl rfl rfl ?_
      refine WL.rd rfl rfl rfl (Rd.pick_f rfl rfl rfl) ?_
      refine WL.nil ?_
      exact ⟨by repeat (first | exact Sub.nil | refine Sub.cons rfl (by first | rfl | (first | exact vb ⟨fun h => ⟨by omega, by omega⟩, fun h => by omega⟩ | exact vb_f (by omega))) ?_), by first | exact (fun _ h => h.thin (SubL.mem (by repeat (first | exact SubL.refl | refine SubL.cons (by repeat (first | assumption | exact mS | apply mT)) ?_ | refine SubL.skip ?_)))) | exact (fun w h => OwnL.sat (by repeat (first | exact OwnL.refl | apply OwnL.take (by repeat (first | exact Take.head _ | apply Take.tail)) | apply OwnL.drop)) w (h.thin (SubL.mem (by repeat (first | exact SubL.refl | refine SubL.cons (by repeat (first | assumption | exact mS | apply mT)) ?_ | refine SubL.skip ?_)))))⟩
  · skip
    first | refine WC.ite rfl (fun hc1 => ?_) (fun hc1 => ?_) | refine WC.cond rfl (fun hc1 => ?_) (fun hc1 => ?_)
    · skip
      refine WC.skip ?_
      refine thenQ.normal ?_
      refine WC.seq ?_
      refine WC.block ?_
      refine WC.seq ?_
      refine WC.still mixed (by kernel_rfl) ?_
      refine WA.rd rfl rfl rfl (Rd.move rfl rfl) ?_
      refine WA.rd rfl rfl rfl (Rd.move rfl rfl) ?_
      refine WA.rd rfl rfl rfl ((by first | exact Rd.idx (k := i) rfl S29 rfl rfl (by omega) (by repeat (first | assumption | exact mS | apply mT)) (by first | omega | (simp only [List.length_cons, List.length_nil, List.length_append, List.length_map]; omega)) | exact Rd.idxA (k := i) rfl S29 rfl rfl (by omega) (by repeat (first | assumption | exact mS | apply mT)) (by first | omega | (simp only [List.length_cons, List.length_nil, List.length_append, List.length_map]; omega)) | exact Rd.idxR (k := i) rfl S29 rfl rfl (by omega) (by omega))) ?_
      refine WA.rd rfl rfl rfl (Rd.idxArrE (enc := encP) (n := 2) (size1 := 1) (k := 0) (fo := 0) rfl A53 rfl rfl rfl (by decide) rfl hl (by omega)) ?_
      refine WA.rd rfl rfl rfl (Rd.getF (enc := encP) (size := 2) (xs := xs) (k := i) (f := 0) (a := xs[i]!) (u := vs xs[i]!.1) rfl C9 rfl hl (fun x => rfl) (by omega) (get!_of_lt (by omega)) rfl) ?_
      refine WA.rd rfl rfl rfl (Rd.move rfl rfl) ?_
      refine WA.rd rfl rfl rfl (Rd.move rfl rfl) ?_
      refine WA.rd rfl rfl rfl ((by first | exact Rd.idx (k := i) rfl S29 rfl rfl (by omega) (by repeat (first | assumption | exact mS | apply mT)) (by first | omega | (simp only [List.length_cons, List.length_nil, List.length_append, List.length_map]; omega)) | exact Rd.idxA (k := i) rfl S29 rfl rfl (by omega) (by repeat (first | assumption | exact mS | apply mT)) (by first | omega | (simp only [List.length_cons, List.length_nil, List.length_append, List.length_map]; omega)) | exact Rd.idxR (k := i) rfl S29 rfl rfl (by omega) (by omega))) ?_
      refine WA.rd rfl rfl rfl (Rd.idxArrE (enc := encP) (n := 2) (size1 := 1) (k := 1) (fo := 1) rfl A53 rfl rfl rfl (by decide) rfl hl (by omega)) ?_
      refine WA.rd rfl rfl rfl (Rd.getF (enc := encP) (size := 2) (xs := xs) (k := i) (f := 1) (a := xs[i]!) (u := vs xs[i]!.2) rfl C9 rfl hl (fun x => rfl) (by omega) (get!_of_lt (by omega)) rfl) ?_
      refine WA.rd rfl rfl rfl (Rd.assign rfl rfl) ?_
      refine WA.rd rfl rfl rfl (Rd.assign rfl rfl) ?_
      refine WA.nil ?_
      refine thenQ.normal ?_
      refine WC.region ?_
      refine WL.rd rfl rfl rfl (Rd.move rfl rfl) ?_
      refine WL.rd rfl rfl rfl (Rd.move rfl rfl) ?_
      refine WL.rd rfl rfl rfl (Rd.move rfl rfl) ?_
      refine WL.rd rfl rfl rfl (Rd.buildN (ps := [(0, _), (1, _)]) rfl Bs42 I42 rfl (by repeat (first | exact Evs.nil | apply Evs.cons rfl)) (by repeat (first | exact CellsOf.nil | apply CellsOf.cons rfl)) (by apply NFo.mk; repeat (first | exact NF.nil | apply NF.cons))) ?_
      refine WL.op rfl ?_
      refine OpW.buildSl (ps := [(0, _)]) rfl S24 (by repeat (first | exact Evs.nil | apply Evs.cons rfl)) rfl rfl (by repeat (first | exact CellsOf.nil | apply CellsOf.cons rfl)) (by kernel_rfl) rfl rfl rfl ?_; intro b33
      have hil : (xs.take i).length ≤ 60 := by rw [List.length_take]; omega
      refine WL.op rfl ?_
      refine OpW.appendRow (enc := encP) rfl S24 rfl rfl (by repeat (first | assumption | exact Take.head _ | apply Take.tail)) (by repeat (first | assumption | exact Take.head _ | apply Take.tail)) [xs[i]!] rfl (by rfl) rfl (by intro x; first | rfl | (cases x; rfl) | (rcases x with ⟨_, _, _⟩; rfl) | (rcases x with ⟨_, _, _, _⟩; rfl)) (by intro x; first | rfl | (cases x; rfl) | (rcases x with ⟨_, _, _⟩; rfl) | (rcases x with ⟨_, _, _, _⟩; rfl)) ⟨by simp only [maxLen, List.length_append, List.length_nil, List.length_cons, List.length_drop, List.length_take, List.length_map]; omega, by first | omega | (simp only [List.length_append, List.length_nil, List.length_cons, List.length_drop, List.length_take, List.length_map]; omega)⟩ rfl rfl ?_; intro v34 hv34
      refine WL.rd rfl rfl rfl (Rd.move rfl rfl) ?_
      refine WL.rd rfl rfl rfl (Rd.move rfl rfl) ?_
      refine WL.rd rfl rfl rfl (Rd.move rfl rfl) ?_
      refine WL.rd rfl rfl rfl (Rd.buildN (ps := [(0, _), (1, _)]) rfl Bs48 I48 rfl (by repeat (first | exact Evs.nil | apply Evs.cons rfl)) (by repeat (first | exact CellsOf.nil | apply CellsOf.cons rfl)) (by apply NFo.mk; repeat (first | exact NF.nil | apply NF.cons))) ?_
      refine WL.op rfl ?_
      refine OpW.buildSl (ps := [(0, _)]) rfl S30 (by repeat (first | exact Evs.nil | apply Evs.cons rfl)) rfl rfl (by repeat (first | exact CellsOf.nil | apply CellsOf.cons rfl)) (by kernel_rfl) rfl rfl rfl ?_; intro b39
      refine WL.op rfl ?_
      refine OpW.appendRow (enc := encP) rfl S30 rfl rfl (by repeat (first | assumption | exact Take.head _ | apply Take.tail)) (by repeat (first | assumption | exact Take.head _ | apply Take.tail)) [xs[i]!] rfl (by rfl) rfl (by intro x; first | rfl | (cases x; rfl) | (rcases x with ⟨_, _, _⟩; rfl) | (rcases x with ⟨_, _, _, _⟩; rfl)) (by intro x; first | rfl | (cases x; rfl) | (rcases x with ⟨_, _, _⟩; rfl) | (rcases x with ⟨_, _, _, _⟩; rfl)) ⟨by simp only [maxLen, List.length_append, List.length_nil, List.length_cons, List.length_drop, List.length_take, List.length_map]; omega, by first | omega | (simp only [List.length_append, List.length_nil, List.length_cons, List.length_drop, List.length_take, List.length_map]; omega)⟩ rfl rfl ?_; intro v40 hv40
      refine WL.rd rfl rfl rfl (Rd.assign rfl rfl) ?_
      refine WL.rd rfl rfl rfl (Rd.assign rfl rfl) ?_
      refine WL.nil ?_
      refine blockQ.normal ?_
      refine thenQ.normal ?_
      refine WC.region ?_
      refine WL.rd rfl rfl rfl (Rd.move rfl rfl) ?_
      refine WL.rd rfl rfl rfl (Rd.add rfl rfl rfl (by omega)) ?_
      refine WL.rd rfl rfl rfl (Rd.assign rfl rfl) ?_
      refine WL.nil ?_
      exact loopQ3.mk (i + 1) v34 v40 ⟨by omega, by omega⟩ (by omega) (by repeat (first | exact Sub.nil | refine Sub.cons rfl (by first | rfl | (congr 1; omega) | assumption) ?_)) (by rw [take_snoc' (by omega)]; exact (fun w h => OwnL.sat (by repeat (first | exact OwnL.refl | apply OwnL.take (by repeat (first | exact Take.head _ | apply Take.tail)) | apply OwnL.drop)) w (h.thin (SubL.mem (by repeat (first | exact SubL.refl | refine SubL.cons (by repeat (first | assumption | exact mS | apply mT)) ?_ | refine SubL.skip ?_))))))
    · skip
      have e : xs.take i = xs.take 60 := by
        rcases Nat.lt_or_ge i 60 with h | h
        · rw [List.take_of_length_le (by omega), List.take_of_length_le (by omega)]
        · rw [show i = 60 from by omega]
      rw [e]
      refine WC.heap (fun w h => Sat.shareA (xs := xs.take 60) (by repeat (first | assumption | exact Take.head _ | apply Take.tail)) (Sat.shareA (xs := xs.take 60) (Take.tail (Take.head _)) h)) ?_
      refine WC.exit ?_
      refine thenQ.exit ?_
      refine loopQ3.exit ?_
      refine blockQ.exit ?_
      refine thenQ.normal ?_
      refine WC.seq ?_
      refine WC.region ?_
      refine WL.rd rfl rfl rfl (Rd.move rfl rfl) ?_
      refine WL.rd rfl rfl rfl (Rd.move rfl rfl) ?_
      refine WL.rd rfl rfl rfl (Rd.assign rfl rfl) ?_
      refine WL.rd rfl rfl rfl (Rd.assign rfl rfl) ?_
      refine WL.nil ?_
      refine thenQ.normal ?_
      refine WC.ret (Ret.two Try.results12 rfl rfl ?_)
      exact hk xa xb
theorem texts_aux {xs ys : List T} {k : Nat} (hl : xs.length = ys.length) (h : xs.take k = ys.take k) (hk : k = xs.length) : xs = ys := by
  subst hk; rw [List.take_length, hl, List.take_length] at h; exact h
theorem take_step {xs ys : List T} {k : Nat} (hl : xs.length = ys.length) (h : xs.take k = ys.take k) (hk : k < xs.length) (he : xs[k]! = ys[k]!) : xs.take (k + 1) = ys.take (k + 1) := by
  rw [take_snoc' hk, take_snoc' (by omega), h, he]
set_option maxRecDepth 20000 in
theorem texts_spec {xs ys : List T} {av bv : Value} (ha : SlE (one vs) av xs ∈ R) (hb : SlE (one vs) bv ys ∈ R)
    (hk : POST (.bool (decide (xs = ys))) R O) : Fun Try.prog 17 #[av, bv] R O POST := by
  refine Fun.len ha fun hla => ?_
  refine Fun.len hb fun hlb => ?_
  refine Fun.enter (l := [_, _]) Try.func17 rfl Try.ntmps17 rfl (L0 := [(0, _), (1, _)]) rfl ?_
  refine WC.seq ?_
  refine WC.region ?_
  refine WL.rd rfl rfl rfl (Rd.assign rfl rfl) ?_
  refine WL.nil ?_
  refine thenQ.normal ?_
  refine WC.seq ?_
  refine WC.seq ?_
  refine WC.region ?_
  refine WL.rd rfl rfl rfl (Rd.move rfl rfl) ?_
  refine WL.rd rfl rfl rfl ((by first | exact Rd.lenE rfl rfl Try.underlying38 (by repeat (first | assumption | exact mS | apply mT)) | exact Rd.lenA rfl rfl Try.underlying38 (by repeat (first | assumption | exact mS | apply mT)) | exact Rd.len rfl rfl Try.underlying38)) ?_
  refine WL.rd rfl rfl rfl (Rd.move rfl rfl) ?_
  refine WL.rd rfl rfl rfl ((by first | exact Rd.lenE rfl rfl Try.underlying38 (by repeat (first | assumption | exact mS | apply mT)) | exact Rd.lenA rfl rfl Try.underlying38 (by repeat (first | assumption | exact mS | apply mT)) | exact Rd.len rfl rfl Try.underlying38)) ?_
  refine WL.rd rfl rfl rfl (Rd.neq rfl rfl rfl) ?_
  refine WL.nil ?_
  refine thenQ.normal ?_
  first | refine WC.ite rfl (fun hc1 => ?_) (fun hc1 => ?_) | refine WC.cond rfl (fun hc1 => ?_) (fun hc1 => ?_)
  · skip
    refine WC.seq ?_
    refine WC.region ?_
    refine WL.rd rfl rfl rfl (Rd.assign rfl rfl) ?_
    refine WL.nil ?_
    refine thenQ.normal ?_
    refine WC.ret (Ret.one Try.results17 rfl ?_)
    rwa [decide_eq_false (fun h => by rw [h] at hc1; omega)] at hk
  · skip
    have hl : xs.length = ys.length := by omega
    refine WC.skip ?_
    refine thenQ.normal ?_
    refine WC.seq ?_
    refine WC.seq ?_
    refine WC.region ?_
    refine WL.rd rfl rfl rfl (Rd.assign rfl rfl) ?_
    refine WL.nil ?_
    refine thenQ.normal ?_
    refine WC.block ?_
    refine WC.pick [5, 0, 1] (by repeat (first | exact Pick.nil | apply Pick.cons rfl)) ?_
    refine WC.loop1o 1 (fun (k : Nat) => [(5, .int .i64 k)]) (fun (k : Nat) => k ≤ xs.length ∧ xs.take k = ys.take k) (fun (k : Nat) => xs.length - k) (0) (by repeat (first | exact Split.zero | apply Split.succ)) ?hinv1 (by repeat (first | exact Sub.nil | refine Sub.cons rfl (by first | rfl | (congr 1; omega) | assumption) ?_)) (fun _ h => h) ?_
    case hinv1 =>
      exact ⟨Nat.zero_le _, by simp⟩
    intro k
    rintro ⟨hk1, hk2⟩
    refine WC.seq ?_
    refine WC.seq ?_
    refine WC.region ?_
    refine WL.rd rfl rfl rfl (Rd.move rfl rfl) ?_
    refine WL.rd rfl rfl rfl (Rd.move rfl rfl) ?_
    refine WL.rd rfl rfl rfl ((by first | exact Rd.lenE rfl rfl Try.underlying38 (by repeat (first | assumption | exact mS | apply mT)) | exact Rd.lenA rfl rfl Try.underlying38 (by repeat (first | assumption | exact mS | apply mT)) | exact Rd.len rfl rfl Try.underlying38)) ?_
    refine WL.rd rfl rfl rfl (Rd.lss rfl rfl rfl) ?_
    refine WL.nil ?_
    refine thenQ.normal ?_
    first | refine WC.ite rfl (fun hc2 => ?_) (fun hc2 => ?_) | refine WC.cond rfl (fun hc2 => ?_) (fun hc2 => ?_)
    · skip
      refine WC.skip ?_
      refine thenQ.normal ?_
      refine WC.seq ?_
      refine WC.block ?_
      refine WC.seq ?_
      refine WC.still mixed (by kernel_rfl) ?_
      refine WA.rd rfl rfl rfl (Rd.move rfl rfl) ?_
      refine WA.rd rfl rfl rfl (Rd.move rfl rfl) ?_
      refine WA.rd rfl rfl rfl ((by first | exact Rd.idx1 rfl S38 rfl rfl rfl (by repeat (first | assumption | exact mS | apply mT)) (by first | omega | (simp only [List.length_cons, List.length_nil, List.length_append, List.length_map]; omega)) | exact Rd.idxA1 rfl S38 rfl rfl rfl (by repeat (first | assumption | exact mS | apply mT)) (by first | omega | (simp only [List.length_cons, List.length_nil, List.length_append, List.length_map]; omega)) | exact Rd.idxR1 rfl S38 rfl rfl rfl (by omega))) ?_
      refine WA.rd rfl rfl rfl ((by first | exact Rd.get rfl C9 rfl (by repeat (first | assumption | exact mS | apply mT)) (by first | assumption | rfl | exact get!_of_lt (by omega)) | exact Rd.getA rfl C9 rfl (by repeat (first | assumption | exact mS | apply mT)) (by first | assumption | rfl | exact get!_of_lt (by omega)) | exact Rd.row1 rfl C9 rfl (by repeat (first | assumption | exact mS | apply mT)) (by rfl) | exact Rd.getF rfl C9 rfl (by repeat (first | assumption | exact mS | apply mT)) (by intro x; first | rfl | (cases x; rfl) | (rcases x with ⟨_, _, _⟩; rfl) | (rcases x with ⟨_, _, _, _⟩; rfl)) rfl (by first | assumption | rfl | exact get!_of_lt (by omega)) (by rfl) | exact Rd.getFA rfl C9 rfl (by repeat (first | assumption | exact mS | apply mT)) (by intro x; first | rfl | (cases x; rfl) | (rcases x with ⟨_, _, _⟩; rfl) | (rcases x with ⟨_, _, _, _⟩; rfl)) rfl (by first | assumption | rfl | exact get!_of_lt (by omega)) (by rfl))) ?_
      refine WA.rd rfl rfl rfl (Rd.move rfl rfl) ?_
      refine WA.rd rfl rfl rfl (Rd.move rfl rfl) ?_
      refine WA.rd rfl rfl rfl ((by first | exact Rd.idx1 rfl S38 rfl rfl rfl (by repeat (first | assumption | exact mS | apply mT)) (by first | omega | (simp only [List.length_cons, List.length_nil, List.length_append, List.length_map]; omega)) | exact Rd.idxA1 rfl S38 rfl rfl rfl (by repeat (first | assumption | exact mS | apply mT)) (by first | omega | (simp only [List.length_cons, List.length_nil, List.length_append, List.length_map]; omega)) | exact Rd.idxR1 rfl S38 rfl rfl rfl (by omega))) ?_
      refine WA.rd rfl rfl rfl ((by first | exact Rd.get rfl C9 rfl (by repeat (first | assumption | exact mS | apply mT)) (by first | assumption | rfl | exact get!_of_lt (by omega)) | exact Rd.getA rfl C9 rfl (by repeat (first | assumption | exact mS | apply mT)) (by first | assumption | rfl | exact get!_of_lt (by omega)) | exact Rd.row1 rfl C9 rfl (by repeat (first | assumption | exact mS | apply mT)) (by rfl) | exact Rd.getF rfl C9 rfl (by repeat (first | assumption | exact mS | apply mT)) (by intro x; first | rfl | (cases x; rfl) | (rcases x with ⟨_, _, _⟩; rfl) | (rcases x with ⟨_, _, _, _⟩; rfl)) rfl (by first | assumption | rfl | exact get!_of_lt (by omega)) (by rfl) | exact Rd.getFA rfl C9 rfl (by repeat (first | assumption | exact mS | apply mT)) (by intro x; first | rfl | (cases x; rfl) | (rcases x with ⟨_, _, _⟩; rfl) | (rcases x with ⟨_, _, _, _⟩; rfl)) rfl (by first | assumption | rfl | exact get!_of_lt (by omega)) (by rfl))) ?_
      refine WA.rd rfl rfl rfl (Rd.sneq rfl rfl rfl) ?_
      refine WA.nil ?_
      refine thenQ.normal ?_
      first | refine WC.ite rfl (fun hc3 => ?_) (fun hc3 => ?_) | refine WC.cond rfl (fun hc3 => ?_) (fun hc3 => ?_)
      · skip
        refine WC.seq ?_
        refine WC.region ?_
        refine WL.rd rfl rfl rfl (Rd.assign rfl rfl) ?_
        refine WL.nil ?_
        refine thenQ.normal ?_
        refine WC.ret (Ret.one Try.results17 rfl ?_)
        rwa [decide_eq_false (fun h => by rw [h] at hc3; simp at hc3)] at hk
      · skip
        have he : xs[k]! = ys[k]! := by simpa using hc3
        refine WC.skip ?_
        refine blockQ.normal ?_
        refine thenQ.normal ?_
        refine WC.region ?_
        refine WL.rd rfl rfl rfl (Rd.move rfl rfl) ?_
        refine WL.rd rfl rfl rfl (Rd.add rfl rfl rfl (by omega)) ?_
        refine WL.rd rfl rfl rfl (Rd.assign rfl rfl) ?_
        refine WL.nil ?_
        exact loopQ1.mk (k + 1) ⟨by omega, take_step hl hk2 (by omega) he⟩ (by first | omega | (dsimp only; omega)) (by repeat (first | exact Sub.nil | refine Sub.cons rfl (by first | rfl | (congr 1; omega) | assumption) ?_)) (fun _ h => h.thin (SubL.mem (by repeat (first | exact SubL.refl | refine SubL.cons (by repeat (first | assumption | exact mS | apply mT)) ?_ | refine SubL.skip ?_))))
    · skip
      refine WC.exit ?_
      refine thenQ.exit ?_
      refine loopQ1.exit ?_
      refine blockQ.exit ?_
      refine thenQ.normal ?_
      refine WC.seq ?_
      refine WC.region ?_
      refine WL.rd rfl rfl rfl (Rd.assign rfl rfl) ?_
      refine WL.nil ?_
      refine thenQ.normal ?_
      refine WC.ret (Ret.one Try.results17 rfl ?_)
      rwa [decide_eq_true (texts_aux hl hk2 (by omega))] at hk
/-! ### a word of five letters -/
def sp : T := [97, 32, 98, 10, 97, 98, 32, 99, 10]
def l2 : List Pr := [([97], [98]), ([97, 98], [99])]
def w5 : T := [97, 98, 99, 97, 98]
def o5 : List T := [[97, 98, 99], [97, 98]]
theorem sp_parse {r : PRes} (h : ParseIs sp r) : r = ⟨l2, 0, 0⟩ := by
  refine h.uniq (.inr ⟨by decide, .next (by decide) (by decide) (by decide) (by decide) ?_⟩)
  rw [show cutB 10 sp = [97, 98, 32, 99, 10] from by decide, show [] ++ [pairOf sp] = [(([97], [98]) : Pr)] from by decide]
  refine .next (by decide) (by decide) (by decide) (by decide) ?_
  rw [show cutB 10 [97, 98, 32, 99, 10] = [] from by decide, show [(([97], [98]) : Pr)] ++ [pairOf [97, 98, 32, 99, 10]] = l2 from by decide]
  exact .done
theorem w5_split : Spl l2 (chars w5) o5 := by
  refine .step (r := 0) (hasPair_iff.2 ⟨0, by decide, by decide⟩) (fun _ _ => Nat.zero_le _) ?_
  rw [show pass l2[0]!.1 l2[0]!.2 (chars w5) = [[97, 98], [99], [97, 98]] from by decide]
  refine .step (r := 1) (hasPair_iff.2 ⟨0, by decide, by decide⟩) (fun r' h => ?_) ?_
  · obtain ⟨j, hj, e⟩ := hasPair_iff.1 h
    simp only [List.length_cons, List.length_nil] at hj
    rcases (show j = 0 ∨ j = 1 by omega) with rfl | rfl
    · rw [show rk l2 (([[97, 98], [99], [97, 98]] : List T)[0]!, ([[97, 98], [99], [97, 98]] : List T)[0 + 1]!) = some 1 from by decide] at e
      cases e; exact Nat.le_refl _
    · rw [show rk l2 (([[97, 98], [99], [97, 98]] : List T)[1]!, ([[97, 98], [99], [97, 98]] : List T)[1 + 1]!) = none from by decide] at e
      cases e
  · rw [show pass l2[1]!.1 l2[1]!.2 [[97, 98], [99], [97, 98]] = o5 from by decide]
    refine .done fun r h => ?_
    obtain ⟨j, hj, e⟩ := hasPair_iff.1 h
    simp only [o5, List.length_cons, List.length_nil] at hj
    obtain rfl : j = 0 := by omega
    rw [show rk l2 (o5[0]!, o5[0 + 1]!) = none from by decide] at e
    cases e
theorem sp_split {out : List T} (h : SplitIs l2 w5 out) : out = o5 := split_eq h (.inr ⟨by decide, w5_split⟩)
theorem sp_inv {k : Int} (h : InvIs l2 k) : k = -1 := h.uniq (.inl ⟨rfl, by decide⟩)
set_option maxRecDepth 20000 in
theorem speaks_spec (hk : POST (.bool true) R O) : Fun Try.prog 10 #[] R O POST := by
  refine Fun.enter (l := []) Try.func10 rfl Try.ntmps10 rfl (L0 := []) rfl ?_
  refine WC.seq ?_
  refine WC.region ?_
  refine WL.rd rfl rfl rfl (Rd.assign rfl rfl) ?_
  refine WL.nil ?_
  refine thenQ.normal ?_
  refine WC.seq ?_
  refine WC.region ?_
  refine WL.op rfl ?_
  refine OpW.call rfl rfl (by repeat (first | exact Evs.nil | apply Evs.cons rfl)) (by kernel_rfl) rfl rfl rfl ?_
  refine parse_spec (s := sp) ?_ (by decide)
  intro pv r hr
  obtain rfl := sp_parse hr
  refine WL.rd rfl rfl rfl (Rd.move rfl rfl) ?_
  refine WL.rd rfl rfl rfl (Rd.extract rfl rfl rfl) ?_
  refine WL.rd rfl rfl rfl (Rd.extract rfl rfl rfl) ?_
  refine WL.rd rfl rfl rfl (Rd.extract rfl rfl rfl) ?_
  refine WL.rd rfl rfl rfl (Rd.assign rfl rfl) ?_
  refine WL.rd rfl rfl rfl (Rd.assign rfl rfl) ?_
  refine WL.rd rfl rfl rfl (Rd.assign rfl rfl) ?_
  refine WL.nil ?_
  refine thenQ.normal ?_
  refine WC.seq ?_
  refine WC.pick [1, 2, 3] (by repeat (first | exact Pick.nil | apply Pick.cons rfl)) ?_
  refine WC.val 20 (.bool false) ?_ ?_
  · skip
    refine WC.region ?_
    refine WL.rd rfl rfl rfl (Rd.move rfl rfl) ?_
    refine WL.rd rfl rfl rfl (Rd.neq rfl rfl rfl) ?_
    refine WL.rd rfl rfl rfl (Rd.move rfl rfl) ?_
    refine WL.case 12 rfl (fun hg12 => ?_) (fun hg12 => ?_)
    · skip
      refine WL.no rfl rfl rfl rfl rfl rfl ?_
      refine WL.no rfl rfl rfl rfl rfl rfl ?_
      refine WL.rd rfl rfl rfl (Rd.pick_t rfl rfl rfl) ?_
      refine WL.rd rfl rfl rfl (Rd.move rfl rfl) ?_
      refine WL.no rfl rfl rfl rfl rfl rfl ?_
      refine WL.no rfl rfl rfl rfl rfl rfl ?_
      refine WL.no rfl rfl rfl rfl rfl rfl ?_
      refine WL.rd rfl rfl rfl (Rd.pick_t rfl rfl rfl) ?_
      refine WL.nil ?_
      exact ⟨by repeat (first | exact Sub.nil | refine Sub.cons rfl (by first | rfl | (first | rfl | exact absurd rfl hg12 | exact absurd rfl hg16)) ?_), by first | exact (fun _ h => h.thin (SubL.mem (by repeat (first | exact SubL.refl | refine SubL.cons (by repeat (first | assumption | exact mS | apply mT)) ?_ | refine SubL.skip ?_)))) | exact (fun w h => OwnL.sat (by repeat (first | exact OwnL.refl | apply OwnL.take (by repeat (first | exact Take.head _ | apply Take.tail)) | apply OwnL.drop)) w (h.thin (SubL.mem (by repeat (first | exact SubL.refl | refine SubL.cons (by repeat (first | assumption | exact mS | apply mT)) ?_ | refine SubL.skip ?_)))))⟩
    · skip
      refine WL.rd_yes rfl rfl rfl rfl rfl rfl (Rd.move rfl rfl) ?_
      refine WL.rd_yes rfl rfl rfl rfl rfl rfl (Rd.neq rfl rfl rfl) ?_
      refine WL.rd rfl rfl rfl (Rd.pick_f rfl rfl rfl) ?_
      refine WL.rd rfl rfl rfl (Rd.move rfl rfl) ?_
      refine WL.case 16 rfl (fun hg16 => ?_) (fun hg16 => ?_)
      · skip
        refine WL.no rfl rfl rfl rfl rfl rfl ?_
        refine WL.no rfl rfl rfl rfl rfl rfl ?_
        refine WL.no rfl rfl rfl rfl rfl rfl ?_
        refine WL.rd rfl rfl rfl (Rd.pick_t rfl rfl rfl) ?_
        refine WL.nil ?_
        exact ⟨by repeat (first | exact Sub.nil | refine Sub.cons rfl (by first | rfl | (first | rfl | exact absurd rfl hg12 | exact absurd rfl hg16)) ?_), by first | exact (fun _ h => h.thin (SubL.mem (by repeat (first | exact SubL.refl | refine SubL.cons (by repeat (first | assumption | exact mS | apply mT)) ?_ | refine SubL.skip ?_)))) | exact (fun w h => OwnL.sat (by repeat (first | exact OwnL.refl | apply OwnL.take (by repeat (first | exact Take.head _ | apply Take.tail)) | apply OwnL.drop)) w (h.thin (SubL.mem (by repeat (first | exact SubL.refl | refine SubL.cons (by repeat (first | assumption | exact mS | apply mT)) ?_ | refine SubL.skip ?_)))))⟩
      · skip
        refine WL.rd_yes rfl rfl rfl rfl rfl rfl (Rd.move rfl rfl) ?_
        refine WL.rd_yes rfl rfl rfl rfl rfl rfl (Rd.lenE (enc := encP) (xs := l2) rfl rfl Try.underlying24 (by repeat (first | assumption | exact mS | apply mT))) ?_
        refine WL.rd_yes rfl rfl rfl rfl rfl rfl (Rd.neq rfl rfl rfl) ?_
        refine WL.rd rfl rfl rfl (Rd.pick_f rfl rfl rfl) ?_
        refine WL.nil ?_
        exact ⟨by repeat (first | exact Sub.nil | refine Sub.cons rfl (by first | rfl | (first | rfl | exact absurd rfl hg12 | exact absurd rfl hg16)) ?_), by first | exact (fun _ h => h.thin (SubL.mem (by repeat (first | exact SubL.refl | refine SubL.cons (by repeat (first | assumption | exact mS | apply mT)) ?_ | refine SubL.skip ?_)))) | exact (fun w h => OwnL.sat (by repeat (first | exact OwnL.refl | apply OwnL.take (by repeat (first | exact Take.head _ | apply Take.tail)) | apply OwnL.drop)) w (h.thin (SubL.mem (by repeat (first | exact SubL.refl | refine SubL.cons (by repeat (first | assumption | exact mS | apply mT)) ?_ | refine SubL.skip ?_)))))⟩
  · skip
    first | refine WC.ite rfl (fun hc1 => ?_) (fun hc1 => ?_) | refine WC.cond rfl (fun hc1 => ?_) (fun hc1 => ?_)
    · skip
      cases hc1
    · skip
      refine WC.skip ?_
      refine thenQ.normal ?_
      refine WC.seq ?_
      refine WC.region ?_
      refine WL.rd rfl rfl rfl (Rd.move rfl rfl) ?_
      refine WL.op rfl ?_
      refine OpW.call rfl rfl (by repeat (first | exact Evs.nil | apply Evs.cons rfl)) (by kernel_rfl) rfl rfl rfl ?_
      refine split_spec (l := l2) (word := w5) (by repeat (first | assumption | exact mS | apply mT)) (by decide) ?_
      intro v22 out hs
      obtain rfl := sp_split hs
      refine WL.rd rfl rfl rfl (Rd.assign rfl rfl) ?_
      refine WL.nil ?_
      refine thenQ.normal ?_
      refine WC.pick [1, 4] (by repeat (first | exact Pick.nil | apply Pick.cons rfl)) ?_
      refine WC.val 0 (.bool true) ?_ ?_
      · skip
        refine WC.region ?_
        refine WL.rd rfl rfl rfl (Rd.move rfl rfl) ?_
        refine WL.rd rfl rfl rfl (Rd.lenE (enc := one vs) (xs := o5) rfl rfl Try.underlying38 (by repeat (first | assumption | exact mS | apply mT))) ?_
        refine WL.rd rfl rfl rfl (Rd.eql rfl rfl rfl) ?_
        refine WL.rd rfl rfl rfl (Rd.move rfl rfl) ?_
        refine WL.case 26 rfl (fun hg26 => ?_) (fun hg26 => ?_)
        · skip
          refine WL.rd_yes rfl rfl rfl rfl rfl rfl (Rd.move rfl rfl) ?_
          refine WL.rd_yes rfl rfl rfl rfl rfl rfl (Rd.idx1 (enc := one vs) (xs := o5) (k := 0) rfl S38 rfl rfl rfl (by repeat (first | assumption | exact mS | apply mT)) (by decide)) ?_
          refine WL.rd_yes rfl rfl rfl rfl rfl rfl (Rd.get (g := vs) (xs := o5) (k := 0) (a := [97, 98, 99]) rfl C9 rfl (by repeat (first | assumption | exact mS | apply mT)) rfl) ?_
          refine WL.rd_yes rfl rfl rfl rfl rfl rfl (Rd.seql rfl rfl rfl) ?_
          refine WL.rd rfl rfl rfl (Rd.pick_t rfl rfl rfl) ?_
          refine WL.rd rfl rfl rfl (Rd.move rfl rfl) ?_
          refine WL.case 32 rfl (fun hg32 => ?_) (fun hg32 => ?_)
          · skip
            refine WL.rd_yes rfl rfl rfl rfl rfl rfl (Rd.move rfl rfl) ?_
            refine WL.rd_yes rfl rfl rfl rfl rfl rfl (Rd.idx1 (enc := one vs) (xs := o5) (k := 1) rfl S38 rfl rfl rfl (by repeat (first | assumption | exact mS | apply mT)) (by decide)) ?_
            refine WL.rd_yes rfl rfl rfl rfl rfl rfl (Rd.get (g := vs) (xs := o5) (k := 1) (a := [97, 98]) rfl C9 rfl (by repeat (first | assumption | exact mS | apply mT)) rfl) ?_
            refine WL.rd_yes rfl rfl rfl rfl rfl rfl (Rd.seql rfl rfl rfl) ?_
            refine WL.rd rfl rfl rfl (Rd.pick_t rfl rfl rfl) ?_
            refine WL.rd rfl rfl rfl (Rd.move rfl rfl) ?_
            refine WL.case 38 rfl (fun hg38 => ?_) (fun hg38 => ?_)
            · skip
              refine WL.op_yes rfl rfl rfl rfl ?_
              refine OpW.call rfl rfl (by repeat (first | exact Evs.nil | apply Evs.cons rfl)) (by kernel_rfl) rfl rfl rfl ?_
              refine good_spec (s := [97]) (by decide) ?_
              refine WL.rd rfl rfl rfl (Rd.pick_t rfl rfl rfl) ?_
              refine WL.rd rfl rfl rfl (Rd.move rfl rfl) ?_
              refine WL.case 41 rfl (fun hg41 => ?_) (fun hg41 => ?_)
              · skip
                refine WL.rd_yes rfl rfl rfl rfl rfl rfl (Rd.move rfl rfl) ?_
                refine WL.op_yes rfl rfl rfl rfl ?_
                refine OpW.call rfl rfl (by repeat (first | exact Evs.nil | apply Evs.cons rfl)) (by kernel_rfl) rfl rfl rfl ?_
                refine invalid_spec (l := l2) (by repeat (first | assumption | exact mS | apply mT)) (by decide) ?_
                intro k hk43
                obtain rfl := sp_inv hk43
                refine WL.rd_yes rfl rfl rfl rfl rfl rfl (Rd.eql rfl rfl rfl) ?_
                refine WL.rd rfl rfl rfl (Rd.pick_t rfl rfl rfl) ?_
                refine WL.rd rfl rfl rfl (Rd.assign rfl rfl) ?_
                refine WL.nil ?_
                exact ⟨by repeat (first | exact Sub.nil | refine Sub.cons rfl (by first | rfl | (first | rfl | (exfalso; revert hg26; decide) | (exfalso; revert hg32; decide) | (exfalso; revert hg38; decide) | (exfalso; revert hg41; decide))) ?_), by first | exact (fun _ h => h.thin (SubL.mem (by repeat (first | exact SubL.refl | refine SubL.cons (by repeat (first | assumption | exact mS | apply mT)) ?_ | refine SubL.skip ?_)))) | exact (fun w h => OwnL.sat (by repeat (first | exact OwnL.refl | apply OwnL.take (by repeat (first | exact Take.head _ | apply Take.tail)) | apply OwnL.drop)) w (h.thin (SubL.mem (by repeat (first | exact SubL.refl | refine SubL.cons (by repeat (first | assumption | exact mS | apply mT)) ?_ | refine SubL.skip ?_)))))⟩
              · skip
                refine WL.no rfl rfl rfl rfl rfl rfl ?_
                refine WL.no rfl rfl rfl rfl rfl rfl ?_
                refine WL.no rfl rfl rfl rfl rfl rfl ?_
                refine WL.rd rfl rfl rfl (Rd.pick_f rfl rfl rfl) ?_
                refine WL.rd rfl rfl rfl (Rd.assign rfl rfl) ?_
                refine WL.nil ?_
                exact ⟨by repeat (first | exact Sub.nil | refine Sub.cons rfl (by first | rfl | (first | rfl | (exfalso; revert hg26; decide) | (exfalso; revert hg32; decide) | (exfalso; revert hg38; decide) | (exfalso; revert hg41; decide))) ?_), by first | exact (fun _ h => h.thin (SubL.mem (by repeat (first | exact SubL.refl | refine SubL.cons (by repeat (first | assumption | exact mS | apply mT)) ?_ | refine SubL.skip ?_)))) | exact (fun w h => OwnL.sat (by repeat (first | exact OwnL.refl | apply OwnL.take (by repeat (first | exact Take.head _ | apply Take.tail)) | apply OwnL.drop)) w (h.thin (SubL.mem (by repeat (first | exact SubL.refl | refine SubL.cons (by repeat (first | assumption | exact mS | apply mT)) ?_ | refine SubL.skip ?_)))))⟩
            · skip
              refine WL.no rfl rfl rfl rfl rfl rfl ?_
              refine WL.rd rfl rfl rfl (Rd.pick_f rfl rfl rfl) ?_
              refine WL.rd rfl rfl rfl (Rd.move rfl rfl) ?_
              refine WL.no rfl rfl rfl rfl rfl rfl ?_
              refine WL.no rfl rfl rfl rfl rfl rfl ?_
              refine WL.no rfl rfl rfl rfl rfl rfl ?_
              refine WL.rd rfl rfl rfl (Rd.pick_f rfl rfl rfl) ?_
              refine WL.rd rfl rfl rfl (Rd.assign rfl rfl) ?_
              refine WL.nil ?_
              exact ⟨by repeat (first | exact Sub.nil | refine Sub.cons rfl (by first | rfl | (first | rfl | (exfalso; revert hg26; decide) | (exfalso; revert hg32; decide) | (exfalso; revert hg38; decide) | (exfalso; revert hg41; decide))) ?_), by first | exact (fun _ h => h.thin (SubL.mem (by repeat (first | exact SubL.refl | refine SubL.cons (by repeat (first | assumption | exact mS | apply mT)) ?_ | refine SubL.skip ?_)))) | exact (fun w h => OwnL.sat (by repeat (first | exact OwnL.refl | apply OwnL.take (by repeat (first | exact Take.head _ | apply Take.tail)) | apply OwnL.drop)) w (h.thin (SubL.mem (by repeat (first | exact SubL.refl | refine SubL.cons (by repeat (first | assumption | exact mS | apply mT)) ?_ | refine SubL.skip ?_)))))⟩
          · skip
            refine WL.no rfl rfl rfl rfl rfl rfl ?_
            refine WL.no rfl rfl rfl rfl rfl rfl ?_
            refine WL.no rfl rfl rfl rfl rfl rfl ?_
            refine WL.no rfl rfl rfl rfl rfl rfl ?_
            refine WL.rd rfl rfl rfl (Rd.pick_f rfl rfl rfl) ?_
            refine WL.rd rfl rfl rfl (Rd.move rfl rfl) ?_
            refine WL.no rfl rfl rfl rfl rfl rfl ?_
            refine WL.rd rfl rfl rfl (Rd.pick_f rfl rfl rfl) ?_
            refine WL.rd rfl rfl rfl (Rd.move rfl rfl) ?_
            refine WL.no rfl rfl rfl rfl rfl rfl ?_
            refine WL.no rfl rfl rfl rfl rfl rfl ?_
            refine WL.no rfl rfl rfl rfl rfl rfl ?_
            refine WL.rd rfl rfl rfl (Rd.pick_f rfl rfl rfl) ?_
            refine WL.rd rfl rfl rfl (Rd.assign rfl rfl) ?_
            refine WL.nil ?_
            exact ⟨by repeat (first | exact Sub.nil | refine Sub.cons rfl (by first | rfl | (first | rfl | (exfalso; revert hg26; decide) | (exfalso; revert hg32; decide) | (exfalso; revert hg38; decide) | (exfalso; revert hg41; decide))) ?_), by first | exact (fun _ h => h.thin (SubL.mem (by repeat (first | exact SubL.refl | refine SubL.cons (by repeat (first | assumption | exact mS | apply mT)) ?_ | refine SubL.skip ?_)))) | exact (fun w h => OwnL.sat (by repeat (first | exact OwnL.refl | apply OwnL.take (by repeat (first | exact Take.head _ | apply Take.tail)) | apply OwnL.drop)) w (h.thin (SubL.mem (by repeat (first | exact SubL.refl | refine SubL.cons (by repeat (first | assumption | exact mS | apply mT)) ?_ | refine SubL.skip ?_)))))⟩
        · skip
          refine WL.no rfl rfl rfl rfl rfl rfl ?_
          refine WL.no rfl rfl rfl rfl rfl rfl ?_
          refine WL.no rfl rfl rfl rfl rfl rfl ?_
          refine WL.no rfl rfl rfl rfl rfl rfl ?_
          refine WL.rd rfl rfl rfl (Rd.pick_f rfl rfl rfl) ?_
          refine WL.rd rfl rfl rfl (Rd.move rfl rfl) ?_
          refine WL.no rfl rfl rfl rfl rfl rfl ?_
          refine WL.no rfl rfl rfl rfl rfl rfl ?_
          refine WL.no rfl rfl rfl rfl rfl rfl ?_
          refine WL.no rfl rfl rfl rfl rfl rfl ?_
          refine WL.rd rfl rfl rfl (Rd.pick_f rfl rfl rfl) ?_
          refine WL.rd rfl rfl rfl (Rd.move rfl rfl) ?_
          refine WL.no rfl rfl rfl rfl rfl rfl ?_
          refine WL.rd rfl rfl rfl (Rd.pick_f rfl rfl rfl) ?_
          refine WL.rd rfl rfl rfl (Rd.move rfl rfl) ?_
          refine WL.no rfl rfl rfl rfl rfl rfl ?_
          refine WL.no rfl rfl rfl rfl rfl rfl ?_
          refine WL.no rfl rfl rfl rfl rfl rfl ?_
          refine WL.rd rfl rfl rfl (Rd.pick_f rfl rfl rfl) ?_
          refine WL.rd rfl rfl rfl (Rd.assign rfl rfl) ?_
          refine WL.nil ?_
          exact ⟨by repeat (first | exact Sub.nil | refine Sub.cons rfl (by first | rfl | (first | rfl | (exfalso; revert hg26; decide) | (exfalso; revert hg32; decide) | (exfalso; revert hg38; decide) | (exfalso; revert hg41; decide))) ?_), by first | exact (fun _ h => h.thin (SubL.mem (by repeat (first | exact SubL.refl | refine SubL.cons (by repeat (first | assumption | exact mS | apply mT)) ?_ | refine SubL.skip ?_)))) | exact (fun w h => OwnL.sat (by repeat (first | exact OwnL.refl | apply OwnL.take (by repeat (first | exact Take.head _ | apply Take.tail)) | apply OwnL.drop)) w (h.thin (SubL.mem (by repeat (first | exact SubL.refl | refine SubL.cons (by repeat (first | assumption | exact mS | apply mT)) ?_ | refine SubL.skip ?_)))))⟩
      · skip
        refine WC.heap (R' := R) (O' := O) (fun w h => OwnL.sat (by repeat (first | exact OwnL.refl | apply OwnL.take (by repeat (first | exact Take.head _ | apply Take.tail)) | apply OwnL.drop)) w (h.thin (SubL.mem (by repeat (first | exact SubL.refl | refine SubL.cons (by repeat (first | assumption | exact mS | apply mT)) ?_ | refine SubL.skip ?_))))) ?_
        refine WC.ret (Ret.one Try.results10 rfl ?_)
        exact hk
end
end Go.Proofs.Ytnpkpcjiebiplaa
