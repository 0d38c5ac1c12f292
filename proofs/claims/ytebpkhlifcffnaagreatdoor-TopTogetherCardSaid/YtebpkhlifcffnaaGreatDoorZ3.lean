/-
  Part 3 of the texts that the law TopTogether is proved with: Wa3, Wg, Fi1, Cr3, Cr4, Rf, Rng, Srt, It, Tg1, Na1, Ins, Ret, Sp2, Wde, Rfb, Na2. No premise.
-/
import Derived.Test.YtebpkhlifcffnaaGreatDoorZ2
import Derived.RangeFuncIn
import Derived.RangeFuncRecord
import Derived.RangeFuncSeq
import Derived.TacticsIn
import Derived.OrdersIn
import Derived.Maps.RangeRun
import Derived.Maps.Own
import Derived.Sort.KeysCollected
import Derived.Sort.Row
import Derived.Sort.Grow
import Derived.Lib.SlicesCompact
import Derived.Lib.AppendZerosOnto
import Derived.Lib.Overlaps
namespace Go.Proofs.YtebpkhlifcffnaaGreatDoor
open Go Go.SL
theorem p5{s:DSt}{f z:Int}(h:fS s f z=true):0<=f/\2<=z/\z<=65/\f+z<=(s.aJ.length:Int):=of_decide_eq_true h
theorem Em{s:DSt}{f z i:Int}(h:jd s f z i=true):0<=i/\i<(s.aJ.length:Int)/\ ¬(f<=i/\i<f+z):=of_decide_eq_true h
theorem Gz{s:DSt}{f z:Int}{m:Nat}(dk:Dk s m)(hf:fS s f z=true)(h0:(cD s f).2=0){n:Nat}(hn:(n:Int)<=z-1):Ox (na s f (cD s f).1 n):=by
 intro c hc
 obtain⟨j,hj,rfl⟩:=List.mem_map.1 hc
 have hjn:=List.mem_range.1 hj
 obtain⟨h1,h2,h3⟩:=yc dk.w h0
 obtain⟨f1,f2,f3,f4⟩:=p5 hf
 have a8:=UInt8.toNat_lt (cD s f).1[3+2*j]!
 have b8:=UInt8.toNat_lt (cD s f).1[4+2*j]!
 have hb:hasB s (f+1+(j:Int))=true:=by unfold hasB;rw[decide_eq_true_eq];omega
 refine⟨by show(0:Int)<=((_:Nat):Int);omega,by show((_:Nat):Int)<65536;omega,?_⟩
 show(cD s (f+1+(j:Int))).1.length<=512
 rw[(yc dk.w (J4 hb h3)).1];exact Nat.le_refl _
def sA(po:Option Nat)(d:Nat)(f z:Int):RO:=λw=> ∀l,po=some l->gP l d f z w
section
variable{R:List RO}{O:List Own}{POST:Value->List RO->List Own->Prop}{d l m:Nat}{V:DV}{s:DSt}{f z:Int}
set_option maxRecDepth 20000 in
set_option maxHeartbeats 4000000 in
theorem FJ(ht:ea∈R)(hl:gP l d f z∈R)(dk:Dk s m)(hm:m<=4294967290)(hf:fS s f z=true)
 (hk: ∀v,POST (.tuple #[v,.int .i64 ((gk s f z).2:Nat)]) (SlE jM v (gk s f z).1::R) (dO d V s O)):Fun Tryz.prog 52 #[dp l] R (dO d V s O) POST:=by
 have hll:=dk.ok.aJ
 obtain⟨f1,f2,f3,f4⟩:=p5 hf
 have hfin:=gk.eq_1 s f z
 refine aC (l:=[_]) Tryz.func52 rfl Tryz.ntmps52 rfl (L0:=[(0,_)]) rfl ?_
 refine aD<|ar rfl<|ar rfl<|aw ?_
 refine aF<|WC.mL 14 rfl mixed ?_
 refine ae 0 rfl an bw.all rfl rfl rfl (al rfl rfl) ?_
 refine ae 1 rfl an bw.all rfl rfl rfl (aL rfl rfl) ?_
 refine ae 2 rfl an bw.all rfl rfl rfl ((by exact ak rfl mH rfl rfl)) ?_
 refine ae 3 rfl an bw.all rfl rfl rfl (c8 (off:=0) (u:=dp d) rfl C25 rfl hl rfl) ?_
 refine ae 4 rfl an bw.all rfl rfl rfl (al rfl rfl) ?_
 refine ae 5 rfl an bw.all rfl rfl rfl (aL rfl rfl) ?_
 refine ae 6 rfl an bw.all rfl rfl rfl ((by exact ak rfl rC rfl rfl)) ?_
 refine ae 7 rfl an bw.all rfl rfl rfl (c8 (off:=1) (u:=.int .i64 f) rfl C3 rfl hl rfl) ?_
 refine aS 8 rfl an rfl ?_
 refine aj rfl rfl aZ an rfl rfl rfl ?_
 refine iY (dk.ok.mono ao) ?_
 refine⟨aN,?_⟩
 refine ae 9 rfl an aN rfl rfl rfl (al rfl rfl) ?_
 refine ae 10 rfl an aN rfl rfl rfl (Rd.extract rfl rfl rfl) ?_
 refine ae 11 rfl an aN rfl rfl rfl (Rd.extract rfl rfl rfl) ?_
 refine ae 12 rfl an aN rfl rfl rfl (Rd.assign rfl rfl) ?_
 refine ae 13 rfl an aN rfl rfl rfl (Rd.assign rfl rfl) ?_
 refine WD.done an ?_
 refine aa<|bd<|af rfl<|ab rfl (Rd.neq rfl rfl rfl)<|aw ?_
 refine aE rfl (λhc1=>?_) (λhc1=>?_)
 ·
  rw[if_pos ao] at hfin
  refine aD<|af rfl<|ar rfl<|ar rfl<|aw ?_
  refine WC.heap (λw h=>Sat.tj (α:=Chg) (enc:=jM) h) ?_
  refine WC.ret (Ret.two Tryz.results52 rfl rfl ?_)
  rw[hfin] at hk
  exact hk _
 ·
  have h0:(cD s f).2=0:=by omega
  rw[if_neg ao] at hfin
  obtain⟨hh1,hh2,hh3⟩:=yc dk.w h0
  have hch:=λ(n:Nat) (hn:(n:Int)<=z-1)=>Gz dk hf h0 (n:=n) hn
  obtain⟨h,hhh⟩: ∃h,h=(cD s f).1:=⟨_,rfl⟩
  rw[←hhh] at hfin hh1 hch⊢
  obtain⟨n,hn⟩: ∃n,n=h[2]!.toNat:=⟨_,rfl⟩
  have hn8:=UInt8.toNat_lt h[2]!
  rw[←hn] at hfin hn8
  refine ay<|aa<|aD<|af rfl<|ab rfl (fb (k:=2) (b:=h[2]!) rfl Tryz.underlying9 rfl rfl rfl (get!_of_lt ao)) ?_
  refine ab rfl (ck (kd':=.i64) rfl rfl Tryz.underlying3 (wrap_i64 (by rw[←hn];omega)) (hS:=Tryz.underlying5)) ?_
  refine aU 32 (u:=.int .i64 (n:Int)) rfl (by rw[hn]) ?_
  refine ar rfl<|aw<|aF<|WC.pick [0,4,6] eS ?_
  refine WC.val 45 (.bool (decide (h.take 2≠ [87,76]∨n<1∨z<=(n:Int)))) ?_ ?_
  ·
   refine aB<|af rfl<|ab rfl (gi (hi:=2) rfl Tryz.underlying9 rfl rfl rfl ao) ?_
   refine ab rfl (fA rfl rfl rfl)<|af rfl<|WL.case 36 rfl (λhg36=>?_) (λhg36=>?_)
   ·
    refine aW rfl<|aW rfl<|ab rfl (aY rfl rfl rfl)<|af rfl<|aW rfl<|aW rfl<|aW rfl<|aW rfl<|ab rfl (aY rfl rfl rfl)<|aG ?_
    exact⟨by repeat(first|exact Sub.nil|refine Sub.cons rfl (by first|rfl|(exact pd (.inl hg36))) ?_),by exact(λ_ h=>h.thin (cB.mem cz))⟩
   ·
    refine aT rfl (al rfl rfl)<|aT rfl (Rd.lss rfl rfl rfl)<|ab rfl (aQ rfl rfl rfl)<|af rfl<|WL.case 40 rfl (λhg40=>?_) (λhg40=>?_)
    ·
     refine aW rfl<|aW rfl<|aW rfl<|aW rfl<|ab rfl (aY rfl rfl rfl)<|aG ?_
     exact⟨by repeat(first|exact Sub.nil|refine Sub.cons rfl (by first|rfl|(exact pd (.inr (.inl ao)))) ?_),by exact(λ_ h=>h.thin (cB.mem cz))⟩
    ·
     refine aT rfl (al rfl rfl)<|aT rfl (al rfl rfl)<|WL.c4 rfl rfl rfl rfl<|aj rfl rfl aZ an rfl rfl rfl ?_
     refine xg (z:=z) hl ao ?_
     refine aT rfl (Rd.gtr rfl rfl rfl)<|ab rfl (aQ rfl rfl rfl)<|aG ?_
     exact⟨by repeat(first|exact Sub.nil|refine Sub.cons rfl (by first|rfl|(exact vb ⟨λh=>.inr (.inr ao),λh=>h.elim (λa=>absurd a hg36) (λh=>h.elim (λb=>by omega) (λb=>by omega))⟩)) ?_),by exact(λ_ h=>h.thin (cB.mem cz))⟩
  ·
   refine aE rfl (λhc2=>?_) (λhc2=>?_)
   ·
    rw[if_pos hc2] at hfin
    refine aD<|ar rfl<|ar rfl<|aw ?_
    refine WC.heap (λw h=>Sat.tj (α:=Chg) (enc:=jM) h) ?_
    refine WC.ret (Ret.two Tryz.results52 rfl rfl ?_)
    rw[hfin] at hk
    exact hk _
   ·
    rw[if_neg hc2] at hfin
    have hn1:1<=n:=Nat.le_of_not_lt λhx=>hc2 (.inr (.inl hx))
    have hnz:(n:Int)<=z-1:=by
     by_cases hx:z<=(n:Int)
     ·exact absurd (.inr (.inr hx)) hc2
     ·omega
    refine ay<|aa<|aD<|ar rfl<|aw<|bd<|af rfl<|af rfl<|aw ?_
    refine WC.block ?_
    refine WC.pick [7,47,0,4,46] eS ?_
    refine WC.ia 2 (λ(j:Nat) (v:Value)=>[(7,v),(47,.int .i64 (j:Int))]) (λ(j:Nat) (v:Value)=>dO d V s (bt 204 2 jM v (na s f h j)::O)) (λ(j:Nat) (v:Value)=>j<=n/\bL v) (λ(j:Nat) (v:Value)=>n-j) (0) (.slice none 0 0) iw ?hinv1 cC (λw h=>by
    have g1:=h.dH (α:=Chg) (e:=204) (size:=2) (enc:=jM)
    exact dj g1) ?_
    case hinv1=>
     exact⟨Nat.zero_le _,bL.sl⟩
    intro j v
    rintro⟨j1,j2⟩
    refine aD<|ab rfl (Rd.lss rfl rfl rfl)<|aw ?_
    refine aF<|aE rfl (λhc3=>?_) (λhc3=>?_)
    ·
     have hr0:(cD s (f+1+(j:Int))).2=0:=J4 (by unfold hasB;rw[decide_eq_true_eq];omega) hh3
     have a8:=UInt8.toNat_lt h[3+2*j]!
     have b8:=UInt8.toNat_lt h[4+2*j]!
     have hdl:=mn s f h j
     refine ay<|aa<|aF<|WC.block ?_
     refine aD<|af rfl<|ar rfl<|aw ?_
     refine aF<|WC.mL 17 rfl mixed ?_
     refine ae 0 rfl an bw.all rfl rfl rfl (al rfl rfl) ?_
     refine ae 1 rfl an bw.all rfl rfl rfl (aL rfl rfl) ?_
     refine ae 2 rfl an bw.all rfl rfl rfl ((by exact ak rfl mH rfl rfl)) ?_
     refine ae 3 rfl an bw.all rfl rfl rfl (c8 (off:=0) (u:=dp d) rfl C25 rfl hl rfl) ?_
     refine ae 4 rfl an bw.all rfl rfl rfl (al rfl rfl) ?_
     refine ae 5 rfl an bw.all rfl rfl rfl (aL rfl rfl) ?_
     refine ae 6 rfl an bw.all rfl rfl rfl ((by exact ak rfl rC rfl rfl)) ?_
     refine ae 7 rfl an bw.all rfl rfl rfl (c8 (off:=1) (u:=.int .i64 f) rfl C3 rfl hl rfl) ?_
     refine ae 8 rfl an bw.all rfl rfl rfl (Rd.add rfl rfl rfl ao) ?_
     refine ae 9 rfl an bw.all rfl rfl rfl (al rfl rfl) ?_
     refine ae 10 rfl an bw.all rfl rfl rfl (Rd.add rfl rfl rfl ao) ?_
     refine aS 11 rfl an rfl ?_
     refine aj rfl rfl aZ an rfl rfl rfl ?_
     refine iY (dk.ok.mono ao) ?_
     refine⟨aN,?_⟩
     refine ae 12 rfl an aN rfl rfl rfl (al rfl rfl) ?_
     refine ae 13 rfl an aN rfl rfl rfl (Rd.extract rfl rfl rfl) ?_
     refine ae 14 rfl an aN rfl rfl rfl (Rd.extract rfl rfl rfl) ?_
     refine WD.say 64 (u:=.int .i64 0) rfl (by rw[hr0];rfl) ?_
     refine ae 15 rfl an aN rfl rfl rfl (Rd.assign rfl rfl) ?_
     refine ae 16 rfl an aN rfl rfl rfl (Rd.assign rfl rfl) ?_
     refine WD.done an ?_
     refine aa<|bd<|af rfl<|ab rfl (Rd.neq rfl rfl rfl)<|aw ?_
     refine aE rfl (λhc4=>?_) (λhc4=>?_)
     ·
      exact absurd rfl hc4
     ·
      refine ay<|aa<|aD<|af rfl<|ab rfl (Rd.mul rfl rfl rfl ao) ?_
      refine ab rfl (Rd.add rfl rfl rfl ao) ?_
      refine ar rfl<|aw<|WC.drawn (O) 17 rfl mixed ?_
      refine ae 0 rfl an aN rfl rfl rfl (al rfl rfl) ?_
      refine ae 1 rfl an aN rfl rfl rfl (al rfl rfl) ?_
      refine ae 2 rfl an aN rfl rfl rfl (al rfl rfl) ?_
      refine ae 3 rfl an aN rfl rfl rfl (fb (k:=3+2*j) (b:=h[3+2*j]!) rfl Tryz.underlying9 rfl rfl ao (get!_of_lt ao)) ?_
      refine ae 4 rfl an aN rfl rfl rfl (ck (kd':=.i64) rfl rfl Tryz.underlying3 (wrap_i64 ao) (hS:=Tryz.underlying5)) ?_
      refine ae 5 rfl an aN rfl rfl rfl (tf (n:=8) rfl rfl rfl rfl rfl ct ao) ?_
      refine ae 6 rfl an aN rfl rfl rfl (al rfl rfl) ?_
      refine ae 7 rfl an aN rfl rfl rfl (al rfl rfl) ?_
      refine ae 8 rfl an aN rfl rfl rfl (Rd.add rfl rfl rfl ao) ?_
      refine ae 9 rfl an aN rfl rfl rfl (fb (k:=4+2*j) (b:=h[4+2*j]!) rfl Tryz.underlying9 rfl rfl ao (get!_of_lt ao)) ?_
      refine ae 10 rfl an aN rfl rfl rfl (ck (kd':=.i64) rfl rfl Tryz.underlying3 (wrap_i64 ao) (hS:=Tryz.underlying5)) ?_
      refine ae 11 rfl an aN rfl rfl rfl (Dp (a:=h[3+2*j]!.toNat*2^8) (b:=h[4+2*j]!.toNat) rfl rfl rfl rfl rfl (show _<9223372036854775808 by omega) (show _<9223372036854775808 by omega)) ?_
      refine WD.say 82 (u:=.int .i64 ((h[3+2*j]!.toNat*256+h[4+2*j]!.toNat:Nat):Int)) rfl (by rw[Jq]) ?_
      refine ae 12 rfl an aN rfl rfl rfl (al rfl rfl) ?_
      refine ae 13 rfl an aN rfl rfl rfl (bO (ps:=[(0,_),(1,_)]) rfl II wj rfl aZ fy (by apply NFo.mk;repeat(first|exact NF.nil|apply NF.cons))) ?_
      refine aS 14 rfl an rfl ?_
      refine aX (ps:=[(0,_)]) rfl vg aZ rfl rfl fy an rfl rfl rfl ?_;intro b85
      refine⟨aN,?_⟩
      refine aS 15 rfl an rfl ?_
      refine bR (enc:=jM) rfl vg rfl rfl bh bh [I2 s f h j] rfl (by rfl) rfl ie ie (by exact⟨by simp only[maxLen,List.length_append,List.length_nil,List.length_cons,List.length_drop,List.length_take,List.length_map];omega,by omega⟩) rfl rfl ?_;intro v86 hv86
      refine⟨aN,?_⟩
      refine ae 16 rfl an aN rfl rfl rfl (Rd.assign rfl rfl) ?_
      refine WD.done an ?_
      refine aA<|aa<|aB<|ab rfl (Rd.add rfl rfl rfl ao) ?_
      exact af rfl<|aG<|bC.mk (j+1) v86 ⟨by omega,hv86⟩ ao cC (λw h=>by rw[Jh];exact dj h)
    ·
     obtain rfl:j=n:=by omega
     obtain⟨x,hx⟩: ∃x,x=na s f h j:=⟨_,rfl⟩
     have hxl:x.length=j:=by rw[hx,mn]
     have hxc:=hch j hnz
     rw[←hx] at hxc hfin⊢
     have hhb:=w6 x
     refine WC.exit<|au.exit<|bC.exit<|aH.exit<|aa<|aF<|aF<|WC.heap (λw h=>Sat.eE (enc:=jM) (xs:=x) bh h) ?_
     refine aB<|af rfl<|ab rfl (by exact bu rfl rfl Tryz.underlying116 aK) ?_
     refine af rfl<|aw<|WC.block ?_
     refine WC.pick [90,0,4,7,88,89] eS ?_
     refine WC.lx 1 (λ(k:Nat)=>[(90,.int .i64 (k:Int))]) (λ(k:Nat)=>k<=x.length/\ ∀i,i<k->jd s f z x[i]!.1=true) (λ(k:Nat)=>x.length-k) (0) iw ?hinv2 cC (λ_ h=>h) ?_
     case hinv2=>
      exact⟨Nat.zero_le _,λi hi=>absurd hi (Nat.not_lt_zero _)⟩
     intro k
     rintro⟨k1,k2⟩
     refine aD<|ab rfl (Rd.lss rfl rfl rfl)<|aw ?_
     refine aF<|aE rfl (λhc5=>?_) (λhc5=>?_)
     ·
      refine ay<|aa<|aF<|WC.block ?_
      refine aD<|ab rfl (by exact dy rfl vg rfl rfl rfl aK ao) ?_
      refine ab rfl (dM (k:=k) (a:=x[k]!) (cs:=[.int .i64 x[k]!.1,vs x[k]!.2]) (enc:=jM) (xs:=x) rfl sL rfl aK (λ_=>rfl) (get!_of_lt ao) ba) ?_
      refine aq rfl<|OpW.alloc rfl wj rfl ba rfl rfl ?_;intro b13
      refine aq rfl<|aM rfl sL rfl rfl ba bh rfl rfl ba rfl ?_
      refine a7<|af rfl<|ab rfl (by exact ak rfl uS rfl rfl) ?_
      refine ab rfl (ax (off:=0) (u:=.int .i64 x[k]!.1) rfl C3 rfl aK rfl) ?_
      refine aq rfl<|aj rfl rfl aZ an rfl rfl rfl ?_
      refine Fun.heap (O':=dO d V s (az b13 204 [.int .i64 x[k]!.1,vs x[k]!.2]::O)) bN ?_
      refine qB (f:=f) (z:=z) aK ao ?_
      refine ab rfl (by exact iS rfl rfl) ?_
      refine aw<|aE rfl (λhc6=>?_) (λhc6=>?_)
      ·
       have hno: ¬ ∀c∈x,jd s f z c.1=true:=λhx=>hc6 (Em (hx _ (qz ao)))
       rw[if_pos hno] at hfin
       refine aD<|ar rfl<|ar rfl<|aw ?_
       refine WC.heap (R':=SlE jM (.slice none 0 0) ([]:List Chg)::R) (O':=dO d V s O) (λw h=>by
       have g1:=Sat.tj (α:=Chg) (enc:=jM) h
       exact dj g1) ?_
       refine WC.ret (Ret.two Tryz.results52 rfl rfl ?_)
       rw[hfin] at hk
       exact hk _
      ·
       refine ay<|aA<|aa<|aB<|ab rfl (Rd.add rfl rfl rfl ao) ?_
       exact af rfl<|aG<|bq.mk (k+1) ⟨by omega,λi hi=>by
       rcases Nat.lt_or_ge i k with h|h
       ·exact k2 i h
       ·obtain rfl:i=k:=by omega
        exact decide_eq_true (Decidable.not_not.1 hc6)⟩ ao cC bN
     ·
      obtain rfl:k=x.length:=by omega
      have hyes: ¬ ¬ ∀c∈x,jd s f z c.1=true:=λhx=>hx λc hc=>by
       obtain⟨i,hi,rfl⟩:=List.getElem_of_mem hc
       have:=k2 i hi
       rwa [getElem!_pos x i hi] at this
      rw[if_neg hyes] at hfin
      refine WC.exit<|au.exit<|bq.exit<|aH.exit<|aa<|bd<|af rfl ?_
      refine aq rfl<|aj rfl rfl aZ an rfl rfl rfl ?_
      refine pZ (x:=x) (List.mem_cons_of_mem _ ht) aK hxc ao ?_
      refine ar rfl<|a7<|af rfl<|af rfl<|af rfl<|ab rfl (cg (ts:=#[]) (ty:=0) rfl rfl Tryz.underlying9) ?_
      refine ab rfl (Rd.sub rfl rfl rfl ao) ?_
      refine aq rfl<|aj rfl rfl aZ an rfl rfl rfl ?_
      refine Fun.below (v:=vs (Lib.repeatL [0] (512-(cR x).length))) (λw=>by
       have:=Tryz.strings_Repeat ⟨#[0]⟩ (512-(cR x).length) w ao (by show 1*_<=_;omega)
       rw[show((512-(cR x).length:Nat):Int)=512-((cR x).length:Int) from by omega] at this
       exact this) ?_
      rw[iB]
      refine ab rfl (cA rfl rfl rfl (by rw[List.length_replicate];omega)) ?_
      refine aU 108 (u:=vs (bF (cR x))) rfl rfl ?_
      refine ab rfl (fA rfl rfl rfl)<|aw<|aE rfl (λhc7=>?_) (λhc7=>?_)
      ·
       rw[if_pos hc7] at hfin
       refine aD<|ar rfl<|ar rfl<|aw ?_
       refine WC.heap (R':=SlE jM (.slice none 0 0) ([]:List Chg)::R) (O':=dO d V s O) (λw h=>by
       have g1:=Sat.tj (α:=Chg) (enc:=jM) h
       exact dj g1) ?_
       refine WC.ret (Ret.two Tryz.results52 rfl rfl ?_)
       rw[hfin] at hk
       exact hk _
      ·
       rw[if_neg hc7] at hfin
       refine ay<|aa<|aD<|af rfl<|ar rfl<|ar rfl<|aw ?_
       refine WC.ret (Ret.two Tryz.results52 rfl rfl ?_)
       rw[hfin] at hk
       exact hk v
set_option maxRecDepth 20000 in
set_option maxHeartbeats 4000000 in
theorem x9(ht:ea∈R)(dk:Dk s m)(hm:m<=4294960000)(hv:VOk V s)(hkeep:SlE (SL.one vi) V.kv s.keep∈R)
 (hk: ∀V' (po:Option Nat),VOk V' (cE s f z).1->V'.kv=V.kv->(po.isSome=true↔(cE s f z).2.2=0)->POST (.tuple #[RM po,.int .i64 ((cE s f z).2.1:Nat),.int .i64 ((cE s f z).2.2:Nat)]) (sA po d f z::R) (dO d V' (cE s f z).1 O)):
 Fun Tryz.prog 25 #[dp d,.int .i64 f,.int .i64 z] R (dO d V s O) POST:=by
 have hll:=dk.ok.aJ
 have hfin:=cE.eq_1 s f z
 refine aC (l:=[_,_,_]) Tryz.func25 rfl Tryz.ntmps25 rfl (L0:=[(0,_),(1,_),(2,_)]) rfl ?_
 refine aD<|ar rfl<|ar rfl<|ar rfl<|aw ?_
 refine aF<|WC.pick [0,1,2] eS ?_
 refine WC.val 41 (.bool (decide (¬fS s f z=true))) ?_ ?_
 ·
  refine aB<|af rfl<|ab rfl (j3 rfl Tryz.underlying25 rfl rfl)<|aU 15 (u:=.bool (decide False)) rfl (by simp) ?_
  refine af rfl<|WL.case 16 rfl (λhg16=>?_) (λhg16=>?_)
  ·
   exact hg16.elim
  ·
   refine aT rfl (al rfl rfl)<|aT rfl (Rd.lss rfl rfl rfl)<|ab rfl (aQ rfl rfl rfl)<|af rfl<|WL.case 20 rfl (λhg20=>?_) (λhg20=>?_)
   ·
    refine aW rfl<|aW rfl<|ab rfl (aY rfl rfl rfl)<|af rfl<|aW rfl<|aW rfl<|ab rfl (aY rfl rfl rfl)<|af rfl<|aW rfl<|aW rfl<|aW rfl<|aW rfl<|ab rfl (aY rfl rfl rfl)<|af rfl<|aW rfl<|aW rfl<|aW rfl<|aW rfl<|aW rfl<|aW rfl<|ab rfl (aY rfl rfl rfl)<|aG ?_
    exact⟨by repeat(first|exact Sub.nil|refine Sub.cons rfl (by first|rfl|(exact pd (by simp only[fS,decide_eq_true_eq];omega))) ?_),by exact(λ_ h=>h.thin (cB.mem cz))⟩
   ·
    refine aT rfl (al rfl rfl)<|aT rfl (Rd.lss rfl rfl rfl)<|ab rfl (aQ rfl rfl rfl)<|af rfl<|WL.case 24 rfl (λhg24=>?_) (λhg24=>?_)
    ·
     refine aW rfl<|aW rfl<|ab rfl (aY rfl rfl rfl)<|af rfl<|aW rfl<|aW rfl<|aW rfl<|aW rfl<|ab rfl (aY rfl rfl rfl)<|af rfl<|aW rfl<|aW rfl<|aW rfl<|aW rfl<|aW rfl<|aW rfl<|ab rfl (aY rfl rfl rfl)<|aG ?_
     exact⟨by repeat(first|exact Sub.nil|refine Sub.cons rfl (by first|rfl|(exact pd (by simp only[fS,decide_eq_true_eq];omega))) ?_),by exact(λ_ h=>h.thin (cB.mem cz))⟩
    ·
     refine aT rfl (al rfl rfl)<|aT rfl (Rd.gtr rfl rfl rfl)<|ab rfl (aQ rfl rfl rfl)<|af rfl<|WL.case 28 rfl (λhg28=>?_) (λhg28=>?_)
     ·
      refine aW rfl<|aW rfl<|aW rfl<|aW rfl<|ab rfl (aY rfl rfl rfl)<|af rfl<|aW rfl<|aW rfl<|aW rfl<|aW rfl<|aW rfl<|aW rfl<|ab rfl (aY rfl rfl rfl)<|aG ?_
      exact⟨by repeat(first|exact Sub.nil|refine Sub.cons rfl (by first|rfl|(exact pd (by simp only[fS,decide_eq_true_eq];omega))) ?_),by exact(λ_ h=>h.thin (cB.mem cz))⟩
     ·
      refine aT rfl (al rfl rfl)<|aT rfl (al rfl rfl)<|WL.c4 rfl rfl rfl rfl<|aj rfl rfl aZ an rfl rfl rfl ?_
      refine fY ?_
      refine aT rfl (Rd.gtr rfl rfl rfl)<|ab rfl (aQ rfl rfl rfl)<|af rfl<|WL.case 34 rfl (λhg34=>?_) (λhg34=>?_)
      ·
       refine aW rfl<|aW rfl<|aW rfl<|aW rfl<|aW rfl<|aW rfl<|ab rfl (aY rfl rfl rfl)<|aG ?_
       exact⟨by repeat(first|exact Sub.nil|refine Sub.cons rfl (by first|rfl|(exact pd (by simp only[fS,decide_eq_true_eq];omega))) ?_),by exact(λ_ h=>h.thin (cB.mem cz))⟩
      ·
       refine aT rfl (al rfl rfl)<|aT rfl (al rfl rfl)<|WL.c4 rfl rfl rfl rfl<|aj rfl rfl aZ an rfl rfl rfl ?_
       refine fY ?_
       refine aT rfl (al rfl rfl)<|aT rfl (Rd.sub rfl rfl rfl ao) ?_
       refine aT rfl (Rd.gtr rfl rfl rfl)<|ab rfl (aQ rfl rfl rfl)<|aG ?_
       exact⟨by repeat(first|exact Sub.nil|refine Sub.cons rfl (by first|rfl|(exact vb (by simp only[fS,decide_eq_true_eq];omega))) ?_),by exact(λ_ h=>h.thin (cB.mem cz))⟩
 ·
  refine aE rfl (λhc1=>?_) (λhc1=>?_)
  ·
   rw[if_pos hc1] at hfin
   have hk':=hk V none (by rw[hfin];exact hv) rfl (by rw[hfin];simp)
   refine aD<|ar rfl<|ar rfl<|ar rfl<|aw ?_
   refine WC.heap (R':=sA none d f z::R) (O':=dO d V s O) (λw h=>h.derive (λw _ l hl=>by cases hl)) ?_
   refine WC.ret (dn Tryz.results25 rfl rfl rfl ?_)
   rw[hfin] at hk'
   exact hk'
  ·
   have hfit:fS s f z=true:=by simpa using hc1
   obtain⟨f1,f2,f3,f4⟩:=p5 hfit
   rw[if_neg hc1] at hfin
   refine ay<|aa<|aD<|af rfl<|af rfl<|af rfl<|ab rfl (bO (ps:=[(0,_),(1,_),(2,_)]) rfl Rv Sc rfl aZ fy (by apply NFo.mk;repeat(first|exact NF.nil|apply NF.cons))) ?_
   refine aq rfl<|OpW.box rfl rfl ba rfl rfl ?_;intro b46
   refine WL.heap (λw h=>Dt bh h) ?_
   refine ar rfl<|a7<|af rfl<|aq rfl<|aj rfl rfl aZ an rfl rfl rfl ?_
   refine FJ (f:=f) (z:=z) (List.mem_cons_of_mem _ ht) List.mem_cons_self dk ao hfit ?_;intro xv
   refine af rfl<|bH rfl<|bH rfl<|ar rfl<|ar rfl<|aw<|bd<|af rfl<|ab rfl (Rd.neq rfl rfl rfl)<|aw<|aE rfl (λhc2=>?_) (λhc2=>?_)
   ·
    rw[if_pos ao] at hfin
    have hk':=hk V none (by rw[hfin];exact hv) rfl (by rw[hfin];exact⟨λh=>(by cases h),λh=>(by exfalso;exact absurd h (by show(gk s f z).2≠0;omega))⟩)
    refine aD<|af rfl<|ar rfl<|ar rfl<|ar rfl<|aw ?_
    refine WC.heap (R':=sA none d f z::R) (O':=dO d V s O) (λw h=>by
    have g1:=h.derive (q:=sA none d f z) (λw _ l hl=>by cases hl)
    exact dj g1) ?_
    refine WC.ret (dn Tryz.results25 rfl rfl rfl ?_)
    rw[hfin] at hk'
    exact hk'
   ·
    rw[if_neg ao] at hfin
    obtain⟨x,hx⟩: ∃x,x=(gk s f z).1:=⟨_,rfl⟩
    have hxl:x.length<=255:=by
     rw[hx,gk]
     split
     ·exact Nat.zero_le _
     ·split
      ·exact Nat.zero_le _
      ·split
       ·exact Nat.zero_le _
       ·split
        ·exact Nat.zero_le _
        ·rw[mn];have:=UInt8.toNat_lt (cD s f).1[2]!;omega
    rw[←hx] at hfin⊢
    refine ay<|aa<|bd<|af rfl<|ab rfl (by exact bu rfl rfl Tryz.underlying116 aK) ?_
    refine ab rfl (Rd.gtr rfl rfl rfl)<|aw<|aE rfl (λhc3=>?_) (λhc3=>?_)
    ·
     have hne:x≠ []:=λh=>by rw[h] at hc3;simp at hc3
     rw[if_neg hne] at hfin
     obtain⟨dk1,_,hkp1⟩:=iK (x:=x) dk
     obtain⟨t,htt⟩: ∃t,t=cF s x:=⟨_,rfl⟩
     rw[←htt] at dk1 hkp1
     have hdone:k6 s f x=cJ t λu=>jI u f []:=by unfold k6;rw[←htt]
     rw[hdone] at hfin
     refine bd<|af rfl<|af rfl ?_
     refine aq rfl<|aj rfl rfl aZ an rfl rfl rfl ?_
     refine ql (x:=x) (f:=f) (z:=z) aK aK dk ao hv aK ?_;intro V1 hv1 hkv1;rw[←htt] at hv1⊢
     refine ar rfl<|a7<|af rfl<|ab rfl (Rd.neq rfl rfl rfl)<|aw<|aE rfl (λhc4=>?_) (λhc4=>?_)
     ·
      have hth:cJ t (λu=>jI u f [])=t:=by unfold cJ;rw[if_pos ao]
      rw[hth,if_pos ao] at hfin
      have hk':=hk V1 none (by rw[hfin];exact hv1) hkv1 (by rw[hfin];exact⟨λh=>(by cases h),λh=>(by exfalso;exact absurd h (by show t.2≠0;omega))⟩)
      refine aD<|af rfl<|ar rfl<|ar rfl<|ar rfl<|aw ?_
      refine WC.heap (R':=sA none d f z::R) (O':=dO d V1 t.1 O) (λw h=>by
      have g1:=h.derive (q:=sA none d f z) (λw _ l hl=>by cases hl)
      exact dj g1) ?_
      refine WC.ret (dn Tryz.results25 rfl rfl rfl ?_)
      rw[hfin] at hk'
      exact hk'
     ·
      have hth:cJ t (λu=>jI u f [])=jI t.1 f []:=by unfold cJ;rw[if_neg ao]
      rw[hth] at hfin
      refine ay<|aa<|aD<|af rfl ?_
      refine aq rfl<|aj rfl rfl aZ an rfl rfl rfl ?_
      refine nC (h:=[]) (f:=f) (z:=z) aK dk1 ao hv1 (by rw[hkv1,hkp1];exact aK) ?_;intro V2 hv2 hkv2
      refine ar rfl<|a7<|af rfl<|ab rfl (Rd.neq rfl rfl rfl)<|aw<|aE rfl (λhc5=>?_) (λhc5=>?_)
      ·
       rw[if_pos ao] at hfin
       have hk':=hk V2 none (by rw[hfin];exact hv2) (hkv2.trans hkv1) (by rw[hfin];exact⟨λh=>(by cases h),λh=>(by exfalso;exact absurd h (by show(jI t.1 f []).2≠0;omega))⟩)
       refine aD<|af rfl<|ar rfl<|ar rfl<|ar rfl<|aw ?_
       refine WC.heap (R':=sA none d f z::R) (O':=dO d V2 (jI t.1 f []).1 O) (λw h=>by
       have g1:=h.derive (q:=sA none d f z) (λw _ l hl=>by cases hl)
       exact dj g1) ?_
       refine WC.ret (dn Tryz.results25 rfl rfl rfl ?_)
       rw[hfin] at hk'
       exact hk'
      ·
       rw[if_neg ao] at hfin
       refine ay<|aa<|aD<|af rfl<|af rfl<|ab rfl (by exact bu rfl rfl Tryz.underlying116 aK) ?_
       refine ar rfl<|ar rfl<|ar rfl<|aw ?_
       have hk':=hk V2 (some b46) (by rw[hfin];exact hv2) (hkv2.trans hkv1) (by rw[hfin];simp)
       refine WC.heap (R':=sA (some b46) d f z::R) (O':=dO d V2 (jI t.1 f []).1 O) (λw h=>by
        have g1:=h.derive (q:=sA (some b46) d f z) (λw hR l hl=>by cases hl;exact hR (gP b46 d f z) aK)
        exact dj g1) ?_
       refine WC.ret (dn Tryz.results25 rfl rfl rfl ?_)
       rw[hfin] at hk'
       exact hk'
    ·
     obtain rfl:x=[]:=List.length_eq_zero_iff.1 ao
     rw[if_pos rfl] at hfin
     refine ay<|aa<|aD<|af rfl<|af rfl<|ab rfl (by exact bu rfl rfl Tryz.underlying116 aK) ?_
     refine ar rfl<|ar rfl<|ar rfl<|aw ?_
     have hk':=hk V (some b46) (by rw[hfin];exact hv) rfl (by rw[hfin];simp)
     refine WC.heap (R':=sA (some b46) d f z::R) (O':=dO d V s O) (λw h=>by
      have g1:=h.derive (q:=sA (some b46) d f z) (λw hR l hl=>by cases hl;exact hR (gP b46 d f z) aK)
      exact dj g1) ?_
     refine WC.ret (dn Tryz.results25 rfl rfl rfl ?_)
     rw[hfin] at hk'
     exact hk'
set_option maxRecDepth 20000 in
set_option maxHeartbeats 4000000 in
theorem Bv{x:List Chg}{xv:Value}(ht:ea∈R)(hl:gP l d f z∈R)(hfit:fS s f z=true)(hx:SlE jM xv x∈R)(dk:Dk s m)(hm:m<=4294960000)(hv:VOk V s)(hkeep:SlE (SL.one vi) V.kv s.keep∈R)
 (hk: ∀V',VOk V' (cf s f z x).1->V'.kv=V.kv->POST (.int .i64 ((cf s f z x).2:Nat)) R (dO d V' (cf s f z x).1 O)):Fun Tryz.prog 182 #[dp l,xv] R (dO d V s O) POST:=by
 refine Fun.len hx λhxl=>?_
 have hll:=dk.ok.aJ
 obtain⟨f1,f2,f3,f4⟩:=p5 hfit
 have hfin:=cf.eq_1 s f z x
 refine aC (l:=[_,_]) Tryz.func182 rfl Tryz.ntmps182 rfl (L0:=[(0,_),(1,_)]) rfl ?_
 refine aD<|ar rfl<|aw ?_
 refine aF<|WC.pick [0,1] eS ?_
 refine WC.val 26 (.bool (decide (x=[]∨z<=(x.length:Int)))) ?_ ?_
 ·
  refine aB<|af rfl<|ab rfl (j3 rfl Tryz.underlying73 rfl rfl)<|aU 14 (u:=.bool (decide False)) rfl (by simp) ?_
  refine af rfl<|WL.case 15 rfl (λhg15=>?_) (λhg15=>?_)
  ·
   exact hg15.elim
  ·
   refine aT rfl (al rfl rfl)<|aT rfl (by exact bu rfl rfl Tryz.underlying116 aK) ?_
   refine aT rfl (Rd.eql rfl rfl rfl)<|ab rfl (aQ rfl rfl rfl)<|af rfl<|WL.case 20 rfl (λhg20=>?_) (λhg20=>?_)
   ·
    refine aW rfl<|aW rfl<|aW rfl<|aW rfl<|aW rfl<|ab rfl (aY rfl rfl rfl)<|aG ?_
    exact⟨by repeat(first|exact Sub.nil|refine Sub.cons rfl (by first|rfl|(exact pd (.inl (List.length_eq_zero_iff.1 ao)))) ?_),by exact(λ_ h=>h.thin (cB.mem cz))⟩
   ·
    refine aT rfl (al rfl rfl)<|aT rfl (by exact bu rfl rfl Tryz.underlying116 aK) ?_
    refine aT rfl (al rfl rfl)<|WL.c4 rfl rfl rfl rfl<|aj rfl rfl aZ an rfl rfl rfl ?_
    refine xg (z:=z) hl ao ?_
    refine aT rfl (Rd.gtr rfl rfl rfl)<|ab rfl (aQ rfl rfl rfl)<|aG ?_
    exact⟨by repeat(first|exact Sub.nil|refine Sub.cons rfl (by first|rfl|(exact vb ⟨λh=>.inr ao,λh=>h.elim (λh=>by exfalso;rw[h] at hg20;exact hg20 rfl) (λh=>by omega)⟩)) ?_),by exact(λ_ h=>h.thin (cB.mem cz))⟩
 ·
  refine aE rfl (λhc1=>?_) (λhc1=>?_)
  ·
   rw[if_pos hc1] at hfin
   refine aD<|ar rfl<|aw ?_
   refine WC.ret (Ret.one Tryz.results182 rfl ?_)
   rw[hfin] at hk
   exact hk V hv rfl
  ·
   rw[if_neg hc1] at hfin
   have hxz:(x.length:Int)<z:=by
    by_cases hh:z<=(x.length:Int)
    ·exact absurd (.inr hh) hc1
    ·omega
   refine ay<|aa<|WC.cut (α:=Unit) (λ_=>[(0,dp l),(1,xv)]) (λ_=>R) (λ_=>dO d V s O) (λ_=> ∀j,j<x.length->tl s f z x[j]! =false) ?_ ?_
   ·
    refine aD<|af rfl<|ab rfl (by exact bu rfl rfl Tryz.underlying116 aK) ?_
    refine af rfl<|aw<|WC.block ?_
    refine WC.pick [29,0,1,27,28] eS ?_
    refine WC.lx 1 (λ(j:Nat)=>[(29,.int .i64 (j:Int))]) (λ(j:Nat)=>j<=x.length/\ ∀i,i<j->tl s f z x[i]! =false) (λ(j:Nat)=>x.length-j) (0) iw ?hinv1 cC (λ_ h=>h) ?_
    case hinv1=>
     exact⟨Nat.zero_le _,λi hi=>absurd hi (Nat.not_lt_zero _)⟩
    intro j
    rintro⟨j1,j2⟩
    refine aD<|ab rfl (Rd.lss rfl rfl rfl)<|aw ?_
    refine aF<|aE rfl (λhc2=>?_) (λhc2=>?_)
    ·
     refine ay<|aa<|aF<|WC.block ?_
     refine aD<|ab rfl (by exact dy rfl vg rfl rfl rfl aK ao) ?_
     refine ab rfl (dM (k:=j) (a:=x[j]!) (cs:=[.int .i64 x[j]!.1,vs x[j]!.2]) (enc:=jM) (xs:=x) rfl sL rfl aK (λ_=>rfl) (get!_of_lt ao) ba) ?_
     refine aq rfl<|OpW.alloc rfl wj rfl ba rfl rfl ?_;intro b6
     refine aq rfl<|aM rfl sL rfl rfl ba bh rfl rfl ba rfl ?_
     refine aw<|WC.pick [0,1,6,27,28,29] eS ?_
     refine WC.val 43 (.bool (decide (tl s f z x[j]! =true))) ?_ ?_
     ·
      refine aB<|af rfl<|ab rfl (by exact ak rfl uS rfl rfl) ?_
      refine ab rfl (ax (off:=0) (u:=.int .i64 x[j]!.1) rfl C3 rfl aK rfl) ?_
      refine aq rfl<|aj rfl rfl aZ an rfl rfl rfl ?_
      refine Fun.heap (O':=dO d V s (az b6 204 [.int .i64 x[j]!.1,vs x[j]!.2]::O)) bN ?_
      refine qB (f:=f) (z:=z) hl ao ?_
      refine aU 36 (u:=.bool (decide (jd s f z x[j]!.1=true))) rfl (by simp) ?_
      refine ab rfl (by exact iS rfl rfl) ?_
      refine af rfl<|WL.case 38 rfl (λhg38=>?_) (λhg38=>?_)
      ·
       refine aW rfl<|aW rfl<|aW rfl<|aW rfl<|ab rfl (aY rfl rfl rfl)<|aG ?_
       exact⟨by repeat(first|exact Sub.nil|refine Sub.cons rfl (by first|rfl|(exact pd (decide_eq_true (.inl hg38)))) ?_),by exact bN⟩
      ·
       refine aT rfl (by exact ak rfl uC rfl rfl) ?_
       refine aT rfl (ax (off:=1) (u:=vs x[j]!.2) rfl C9 rfl aK rfl) ?_
       refine aT rfl (cg (ts:=#[]) (ty:=0) rfl rfl Tryz.underlying9) ?_
       refine aT rfl (Rd.gtr rfl rfl rfl)<|ab rfl (aQ rfl rfl rfl)<|aG ?_
       exact⟨by repeat(first|exact Sub.nil|refine Sub.cons rfl (by first|rfl|(exact vb ⟨λh=>decide_eq_true (.inr ao),λh=>(of_decide_eq_true h).elim (λh=>absurd h hg38) (λh=>by omega)⟩)) ?_),by exact bN⟩
     ·
      refine aE rfl (λhc3=>?_) (λhc3=>?_)
      ·
       rw[if_pos ⟨_,qz ao,hc3⟩] at hfin
       refine aD<|ar rfl<|aw ?_
       refine WC.heap (R':=R) (O':=dO d V s O) bN ?_
       refine WC.ret (Ret.one Tryz.results182 rfl ?_)
       rw[hfin] at hk
       exact hk V hv rfl
      ·
       refine ay<|aA<|aa<|aB<|ab rfl (Rd.add rfl rfl rfl ao) ?_
       exact af rfl<|aG<|bq.mk (j+1) ⟨by omega,λi hi=>by
       rcases Nat.lt_or_ge i j with h|h
       ·exact j2 i h
       ·obtain rfl:i=j:=by omega
        simpa using hc3⟩ ao cC bN
    ·
     refine WC.exit<|au.exit<|bq.exit<|aH.exit ?_
     obtain rfl:j=x.length:=by omega
     exact⟨(),j2,cC,bN⟩
   ·
    rintro _ hgood
    have hgd: ∀c∈x,jd s f z c.1=true/\c.2.length<=512:=λc hc=>by
     obtain⟨i,hi,rfl⟩:=List.getElem_of_mem hc
     have:=hgood i hi
     rw[getElem!_pos x i hi] at this
     have h2:=of_decide_eq_false this
     exact⟨Decidable.byContradiction λh=>h2 (.inl h),by omega⟩
    have hno: ¬ ∃c∈x,tl s f z c=true:=λ⟨c,hc,hb⟩=>by
     obtain⟨g1,g2⟩:=hgd c hc
     rcases of_decide_eq_true hb with h|h
     ·exact h g1
     ·omega
    rw[if_neg hno] at hfin
    have hxc:Ox x:=λc hc=>by
     obtain⟨g1,g2⟩:=hgd c hc
     obtain⟨q1,q2,_⟩:=Em g1
     exact⟨q1,by omega,g2⟩
    obtain⟨im,him⟩: ∃im,im=iF f x:=⟨_,rfl⟩
    have himl:im.length=x.length:=by rw[him,ph]
    rw[←him] at hfin
    refine bd<|af rfl<|ab rfl (by exact bu rfl rfl Tryz.underlying116 aK) ?_
    refine af rfl<|aw<|WC.block ?_
    refine WC.pick [47,0,1,45,46] eS ?_
    refine WC.rR 1 (λ(j:Nat) (t:DSt) (U:DV)=>[(47,.int .i64 (j:Int))]) (λ(j:Nat) (t:DSt) (U:DV)=>dO d U t O) (λ(j:Nat) (t:DSt) (U:DV)=>j<=x.length/\Dk t (m+j)/\VOk U t/\U.kv=V.kv/\t.keep=s.keep/\t.aJ.length=s.aJ.length/\eY s im=eY t (im.drop j)) (λ(j:Nat) (t:DSt) (U:DV)=>x.length-j) (0) (s) (V) iw ?hinv2 cC (λ_ h=>h) ?_
    case hinv2=>
     exact⟨Nat.zero_le _,dk,hv,rfl,rfl,rfl,rfl⟩
    intro j t U
    rintro⟨j1,dkt,hu,hkv,hkp,hlen,hrun⟩
    refine aD<|ab rfl (Rd.lss rfl rfl rfl)<|aw ?_
    refine aF<|aE rfl (λhc4=>?_) (λhc4=>?_)
    ·
     have hat:=Ie (j:=j) ao hrun
     rw[him,BV ao,←him] at hat
     simp only at hat
     obtain⟨c,hcc⟩: ∃c,c=x[j]! :=⟨_,rfl⟩
     rw[←hcc] at hat
     refine ay<|aa<|aF<|WC.block ?_
     refine aD<|af rfl<|ab rfl (by exact dy rfl vg rfl rfl rfl aK ao) ?_
     refine ab rfl (dM (k:=j) (a:=c) (cs:=[.int .i64 c.1,vs c.2]) (enc:=jM) (xs:=x) rfl sL rfl aK (λ_=>rfl) (by rw[hcc];exact get!_of_lt ao) ba) ?_
     refine aq rfl<|OpW.alloc rfl wj rfl ba rfl rfl ?_;intro b8
     refine ar rfl<|aq rfl<|aM rfl sL rfl rfl ba bh rfl rfl ba rfl ?_
     refine aw<|aF<|WC.tail 13 mixed an ?_
     refine bn rfl (al rfl rfl)<|bn rfl (aL rfl rfl)<|bn rfl (by exact ak rfl mH rfl rfl) ?_
     refine bn rfl (c8 (off:=0) (u:=dp d) rfl C25 rfl hl rfl) ?_
     refine bn rfl (al rfl rfl)<|bn rfl (aL rfl rfl)<|bn rfl (by exact ak rfl rC rfl rfl) ?_
     refine bn rfl (c8 (off:=1) (u:=.int .i64 f) rfl C3 rfl hl rfl) ?_
     refine bn rfl (Rd.add rfl rfl rfl ao) ?_
     refine bn rfl (al rfl rfl)<|bn rfl (Rd.add rfl rfl rfl ao) ?_
     refine bn rfl (by exact ak rfl uC rfl rfl) ?_
     refine bn rfl (ax (off:=1) (u:=vs c.2) rfl C9 rfl aK rfl) ?_
     refine dm<|aq rfl<|aj rfl rfl aZ an rfl rfl rfl ?_
     refine Fun.heap (R':=R) (O':=dO d U t (az b8 204 [.int .i64 c.1,vs c.2]::O)) bN ?_
     refine iW dkt.ok ao hu (by rw[hkv,hkp];exact hkeep) ?_;intro U1 hu1 hku1
     refine ar rfl<|a7<|af rfl<|ab rfl (Rd.neq rfl rfl rfl)<|aw<|aE rfl (λhc5=>?_) (λhc5=>?_)
     ·
      rw[if_pos ao] at hat
      have hmk:cF s im=(eL t (f+1+(j:Int)) c.2,eM t (f+1+(j:Int)) c.2):=by unfold cF;rw[hat];unfold cJ;rw[if_pos (by show eM t (f+1+(j:Int)) c.2≠0;omega)]
      have hfin2:cf s f z x=(eL t (f+1+(j:Int)) c.2,eM t (f+1+(j:Int)) c.2):=by
       rw[hfin,hmk];unfold cJ;rw[if_pos (by show eM t (f+1+(j:Int)) c.2≠0;omega)]
      rw[hfin2] at hk
      refine aD<|af rfl<|ar rfl<|aw ?_
      refine WC.heap (R':=R) (O':=dO d U1 (eL t (f+1+(j:Int)) c.2) O) bN ?_
      refine WC.ret (Ret.one Tryz.results182 rfl ?_)
      exact hk U1 hu1 (hku1.trans hkv)
     ·
      rw[if_neg ao] at hat
      refine ay<|aA<|aa<|aB<|ab rfl (Rd.add rfl rfl rfl ao) ?_
      exact af rfl<|aG<|dN.mk (j+1) (eL t (f+1+(j:Int)) c.2) U1 ⟨by omega,(dkt.put _ _).mono ao,hu1,hku1.trans hkv,(hZ _ _ _).trans hkp,(oG _ _ _).trans hlen,hat⟩ ao cC bN
    ·
     obtain rfl:j=x.length:=by omega
     have hr0:eY s im=(t,0):=by rw[hrun,←himl,List.drop_length];rfl
     have hmk:cF s im=(ek t,eN t):=by unfold cF;rw[hr0];rfl
     rw[hmk] at hfin
     refine WC.exit<|au.exit<|dN.exit<|aH.exit<|aa<|bd<|af rfl<|ab rfl (aL rfl rfl)<|ab rfl (by exact ak rfl mH rfl rfl) ?_
     refine ab rfl (c8 (off:=0) (u:=dp d) rfl C25 rfl hl rfl) ?_
     refine aq rfl<|aj rfl rfl aZ an rfl rfl rfl ?_
     refine lK dkt.ok ao hu (by rw[hkv,hkp];exact hkeep) ?_;intro U1 hu1 hku1
     refine ar rfl<|a7<|af rfl<|ab rfl (Rd.neq rfl rfl rfl)<|aw<|aE rfl (λhc6=>?_) (λhc6=>?_)
     ·
      have hfin2:cf s f z x=(ek t,eN t):=by rw[hfin];unfold cJ;rw[if_pos (by show eN t≠0;omega)]
      rw[hfin2] at hk
      refine aD<|af rfl<|ar rfl<|aw ?_
      refine WC.ret (Ret.one Tryz.results182 rfl ?_)
      exact hk U1 hu1 (hku1.trans hkv)
     ·
      have hfin2:cf s f z x=cJ (jI (ek t) f (cR x)) λt=>k6 t f x:=by rw[hfin];unfold cJ;rw[if_neg (by show ¬eN t≠0;omega)]
      have dk1:=dkt.sync
      have hkp1:=(vA t).trans hkp
      have hlen1:=(tw t).trans hlen
      refine ay<|aa<|bd<|af rfl<|af rfl ?_
      refine aq rfl<|aj rfl rfl aZ an rfl rfl rfl ?_
      refine pZ (x:=x) ht hx hxc ao ?_
      refine aq rfl<|aj rfl rfl aZ an rfl rfl rfl ?_
      refine nC (h:=cR x) (f:=f) (z:=z) hl dk1 ao hu1 (by rw[hku1,hkv,hkp1];exact hkeep) ?_;intro U2 hu2 hku2
      obtain⟨dk2,_,hkp2⟩:=iK (x:=[(f,cR x)]) dk1
      obtain⟨p,hp⟩: ∃p,p=jI (ek t) f (cR x):=⟨_,rfl⟩
      have hp':p=cF (ek t) [(f,cR x)]:=hp
      rw[←hp'] at dk2 hkp2
      rw[←hp] at hfin2 hu2⊢
      refine ar rfl<|a7<|af rfl<|ab rfl (Rd.neq rfl rfl rfl)<|aw<|aE rfl (λhc7=>?_) (λhc7=>?_)
      ·
       have hfin3:cf s f z x=p:=by rw[hfin2];unfold cJ;rw[if_pos ao]
       rw[hfin3] at hk
       refine aD<|af rfl<|ar rfl<|aw ?_
       refine WC.ret (Ret.one Tryz.results182 rfl ?_)
       exact hk U2 hu2 (hku2.trans (hku1.trans hkv))
      ·
       have hfin3:cf s f z x=cJ (cF p.1 x) λu=>jI u f []:=by rw[hfin2];unfold cJ;rw[if_neg ao];rfl
       have hkp3:=hkp2.trans hkp1
       obtain⟨dk3,_,hkp4⟩:=iK (x:=x) dk2
       refine ay<|aa<|bd<|af rfl<|af rfl ?_
       refine aq rfl<|aj rfl rfl aZ an rfl rfl rfl ?_
       refine ql (x:=x) (f:=f) (z:=z) hl hx dk2 (by show _+1+_<=_;simp only[List.length_singleton];omega) hu2 (by rw[hku2,hku1,hkv,hkp3];exact hkeep) ?_;intro U3 hu3 hku3
       obtain⟨q,hq⟩: ∃q,q=cF p.1 x:=⟨_,rfl⟩
       rw[←hq] at hfin3 hu3 dk3 hkp4⊢
       refine ar rfl<|a7<|af rfl<|ab rfl (Rd.neq rfl rfl rfl)<|aw<|aE rfl (λhc8=>?_) (λhc8=>?_)
       ·
        have hfin4:cf s f z x=q:=by rw[hfin3];unfold cJ;rw[if_pos ao]
        rw[hfin4] at hk
        refine aD<|af rfl<|ar rfl<|aw ?_
        refine WC.ret (Ret.one Tryz.results182 rfl ?_)
        exact hk U3 hu3 (hku3.trans (hku2.trans (hku1.trans hkv)))
       ·
        have hfin4:cf s f z x=jI q.1 f []:=by rw[hfin3];unfold cJ;rw[if_neg ao]
        rw[hfin4] at hk
        refine ay<|aa<|aD<|af rfl ?_
        refine aq rfl<|aj rfl rfl aZ an rfl rfl rfl ?_
        refine nC (h:=[]) (f:=f) (z:=z) hl dk3 (by simp only[List.length_singleton];omega) hu3 (by rw[hku3,hku2,hku1,hkv,hkp4,hkp3];exact hkeep) ?_;intro U4 hu4 hku4
        refine ar rfl<|aw<|WC.ret (Ret.one Tryz.results182 rfl ?_)
        exact hk U4 hu4 (hku4.trans (hku3.trans (hku2.trans (hku1.trans hkv))))
end
end Go.Proofs.YtebpkhlifcffnaaGreatDoor
namespace Go.Proofs.YtebpkhlifcffnaaGreatDoor
open Go Go.SL
def iv(L:List (List UInt8))(c:Chg):List (List UInt8):=L.set c.1.toNat (bF c.2)
def a6(x:List Chg)(L:List (List UInt8)):List (List UInt8):=x.foldl iv L
def toW(c:Chg):Nat×List UInt8:=(c.1.toNat,bF c.2)
def OkC(n:Nat)(x:List Chg):Prop:= ∀c∈x,0<=c.1/\c.1<(n:Int)/\c.2.length<=512
def oO(x:List Chg)(i:Nat):Prop:= ∀c∈x,c.1.toNat≠i
theorem vj(x:List Chg)(c:Chg)(L:List (List UInt8)):a6 (x++[c]) L=iv (a6 x L) c:=by unfold a6;rw[List.foldl_append];rfl
theorem dJ: ∀(x:List Chg) (L:List (List UInt8)),(a6 x L).length=L.length
 | [],_=>rfl
 |c::r,L=>by
  show(a6 r (iv L c)).length=_
  rw[dJ r];unfold iv;rw[List.length_set]
theorem uh: ∀(x:List Chg) (L L':List (List UInt8)) (i:Nat),L.length=L'.length->(oO x i->L[i]? =L'[i]?)->(a6 x L)[i]? =(a6 x L')[i]?
 | [],_,_,_,_,h=>h (λc hc=>absurd hc List.not_mem_nil)
 |c::r,L,L',i,hl,h=>by
  show(a6 r (iv L c))[i]? =(a6 r (iv L' c))[i]?
  refine uh r _ _ i (by unfold iv;rw[List.length_set,List.length_set,hl]) (λho=>?_)
  unfold iv
  rw[List.getElem?_set,List.getElem?_set,hl]
  by_cases hc:c.1.toNat=i
  ·rw[if_pos hc,if_pos hc]
  ·rw[if_neg hc,if_neg hc]
   refine h (λd hd=>?_)
   rcases List.mem_cons.1 hd with rfl|hd
   ·exact hc
   ·exact ho d hd
theorem bk: ∀(x:List Chg) (L:List (List UInt8)) (i:Nat),oO x i->(a6 x L)[i]? =L[i]?
 | [],_,_,_=>rfl
 |c::r,L,i,h=>by
  show(a6 r (iv L c))[i]? =_
  rw[bk r _ i (λd hd=>h d (List.mem_cons_of_mem _ hd))]
  unfold iv
  rw[List.getElem?_set_ne (h c List.mem_cons_self)]
theorem fr{x y:List Chg}{i:Nat}(h:oO x i)(hs:List.Sublist y x):oO y i:=λc hc=>h c (hs.subset hc)
theorem qU(ds:List Chg)(keep:List Int)(L:List (List UInt8)): ∀n,n<=ds.length-> ∃sub,List.Sublist sub (ds.take n)/\eW (ds.map toW) keep L n=a6 sub L
 |0,_=>⟨[],List.nil_sublist _,rfl⟩
 |n+1,hn=>by
  obtain⟨sub,h1,h2⟩:=qU ds keep L n ao
  have ht:ds.take (n+1)=ds.take n++[ds[n]!]:=by rw[List.take_add_one,get!_of_lt ao];rfl
  have hg:(ds.map toW)[n]! =toW ds[n]! :=by
   rw[getElem!_pos (ds.map toW) n (by rw[List.length_map];omega),getElem!_pos ds n ao,List.getElem_map]
  rw[iV,ht,hg]
  split
  ·exact⟨sub++[ds[n]!],h1.append (List.Sublist.refl _),by rw[vj,h2];rfl⟩
  ·exact⟨sub,h1.trans (List.sublist_append_left _ _),h2⟩
theorem wI(ds:List Chg)(L:List (List UInt8)): ∀n,n<=ds.length->eW (ds.map toW) [1] L n=a6 (ds.take n) L
 |0,_=>rfl
 |n+1,hn=>by
  have ht:ds.take (n+1)=ds.take n++[ds[n]!]:=by rw[List.take_add_one,get!_of_lt ao];rfl
  have hg:(ds.map toW)[n]! =toW ds[n]! :=by
   rw[getElem!_pos (ds.map toW) n (by rw[List.length_map];omega),getElem!_pos ds n ao,List.getElem_map]
  rw[iV,if_pos (El n),ht,hg,vj,wI ds L n ao];rfl
def Ph(s:DSt)(x:List Chg)(p:DSt×Nat):Prop:=
 p.1.since=[]/\(p.2=0/\p.1.off=false/\p.1.aJ=a6 x s.aJ/\(s.left=0->p.1.left=0)∨
  s.left≠0/\p.2=7/\p.1.off=true/\ ∃sub,List.Sublist sub x/\p.1.aJ=a6 sub s.aJ)
theorem DU: ∀(x:List Chg) (s:DSt) (ds:List Chg),s.off=false->s.since=ds.map toW->OkC s.aJ.length x->
 ((eY s x).2=0/\(eY s x).1.off=false/\(eY s x).1.since=(ds++x).map toW/\(eY s x).1.aJ=s.aJ/\(s.left=0->(eY s x).1.left=0)∨
   s.left≠0/\(eY s x).2=7/\(eY s x).1.off=true/\(eY s x).1.since=[]/\ ∃sub,List.Sublist sub (ds++x)/\(eY s x).1.aJ=a6 sub s.aJ)
 | [],s,ds,ho,hs,_=>.inl ⟨rfl,ho,by rw[List.append_nil];exact hs,rfl,λh=>h⟩
 |c::r,s,ds,ho,hs,hc=>by
  obtain⟨c1,c2,c3⟩:=hc c List.mem_cons_self
  have hb:qW s c.1 c.2=false:=by
   unfold qW hasB
   rw[decide_eq_false_iff_not]
   simp only[decide_eq_true_eq]
   omega
  have hnb: ¬qW s c.1 c.2=true:=by rw[hb];exact Bool.false_ne_true
  have hno: ¬s.off=true:=by rw[ho];exact Bool.false_ne_true
  rw[eY]
  by_cases hl:s.left=1
  ·obtain⟨e1,e2⟩:=mN hno hl
   have ed:eM s c.1 c.2=7:=by unfold eM;rw[if_neg hnb,e1]
   have ep:eL s c.1 c.2=p9 s s.keep:=by unfold eL;rw[if_neg hnb,e1,if_neg ct,e2]
   rw[ed,ep,if_pos ct]
   obtain⟨sub,h1,h2⟩:=qU ds s.keep s.aJ ds.length (Nat.le_refl _)
   rw[List.take_length] at h1
   refine .inr ⟨by omega,rfl,rfl,rfl,sub,h1.trans (List.sublist_append_left _ _),?_⟩
   show eW s.since s.keep s.aJ s.since.length=_
   rw[hs,List.length_map,h2]
  ·obtain⟨e1,e2⟩:=jA hno hl
   have ed:eM s c.1 c.2=0:=by unfold eM;rw[if_neg hnb,e1]
   have ep:eL s c.1 c.2={s with left:=s.left-1,done:=s.done+1,since:=s.since++[toW c]}:=by unfold eL;rw[if_neg hnb,e1,if_pos rfl,e2];rfl
   rw[ed,ep,if_neg (λh=>h rfl)]
   have ih:=DU r {s with left:=s.left-1,done:=s.done+1,since:=s.since++[toW c]} (ds++[c]) ho (by show s.since++[toW c]=_;rw[hs,List.map_append];rfl) (λd hd=>hc d (List.mem_cons_of_mem _ hd))
   rw[List.append_assoc] at ih
   rcases ih with⟨i1,i2,i3,i4,i5⟩|⟨i0,i1,i2,i3,i4⟩
   ·exact .inl ⟨i1,i2,i3,i4,λh=>i5 (by show s.left-1=0;omega)⟩
   ·exact .inr ⟨by have:s.left-1≠0:=i0;omega,i1,i2,i3,i4⟩
theorem jo{s:DSt}{x:List Chg}(ho:s.off=false)(hs:s.since=[])(hc:OkC s.aJ.length x):Ph s x (cF s x):=by
 have h:=DU x s [] ho hs hc
 rw[List.nil_append] at h
 unfold cF cJ
 rcases h with⟨i1,i2,i3,i4,i5⟩|⟨i0,i1,i2,i3,i4⟩
 ·rw[i1,if_neg (λh=>h rfl)]
  obtain⟨t,ht⟩: ∃t,t=(eY s x).1:=⟨_,rfl⟩
  rw[←ht] at i2 i3 i4 i5⊢
  show Ph s x (ek t,eN t)
  have hno: ¬t.off=true:=by rw[i2];exact Bool.false_ne_true
  by_cases hl:t.left=1
  ·obtain⟨e1,e2⟩:=mN hno hl
   have es:ek t=p9 t t.keep:=by unfold ek;rw[e1,if_neg ct,e2]
   obtain⟨sub,h1,h2⟩:=qU x t.keep t.aJ x.length (Nat.le_refl _)
   rw[List.take_length] at h1
   rw[es,e1]
   refine⟨rfl,.inr ⟨λh0=>by have:=i5 h0;omega,rfl,rfl,sub,h1,?_⟩⟩
   show eW t.since t.keep t.aJ t.since.length=_
   rw[i3,List.length_map,h2,i4]
  ·obtain⟨e1,e2⟩:=jA hno hl
   have es:ek t={t with left:=t.left-1,done:=t.done+1,aJ:=eW t.since [1] t.aJ t.since.length,since:=[]}:=by unfold ek;rw[e1,if_pos rfl,e2]
   rw[es,e1]
   refine⟨rfl,.inl ⟨rfl,i2,?_,λh0=>by show t.left-1=0;have:=i5 h0;omega⟩⟩
   show eW t.since [1] t.aJ t.since.length=_
   rw[i3,List.length_map,wI x t.aJ x.length (Nat.le_refl _),List.take_length,i4]
 ·rw[i1,if_pos ct]
  exact⟨i3,.inr ⟨i0,i1,i2,i4⟩⟩
theorem Fq(x:List Chg):(bF (cR x)).take 2=[87,76]:=by unfold bF cR hdB;rfl
theorem Ge{s:DSt}{f z:Int}(h0:(cD s f).2=0){n:Nat}(hn:n=(cD s f).1[2]!.toNat)(h1:1<=n)(h2:(n:Int)<z)(h3: ∀c∈na s f (cD s f).1 n,jd s f z c.1=true)(h4:(cD s f).1=bF (cR (na s f (cD s f).1 n))):gk s f z=(na s f (cD s f).1 n,0):=by
 have hm:(cD s f).1.take 2=[87,76]:=by rw[h4];exact Fq _
 rw[gk,←hn,if_neg (λhh=>hh h0),if_neg,if_neg (λhh=>hh h3),if_neg (λhh=>hh h4)]
 rintro(h|h|h)
 ·exact h hm
 ·omega
 ·omega
theorem EP{s:DSt}{m:Nat}(h:Dk s m)(f:Int)(x:List Chg):Dk (k6 s f x).1 (m+x.length+3)/\(k6 s f x).1.aJ.length=s.aJ.length/\(k6 s f x).1.keep=s.keep:=by
 obtain⟨h1,h2,h3⟩:=iK (x:=x) h
 unfold k6 cJ
 split
 ·exact⟨h1.mono ao,h2,h3⟩
 ·obtain⟨g1,g2,g3⟩:=iK (x:=[(f,[])]) h1
  exact⟨g1.mono (by simp only[List.length_singleton];omega),g2.trans h2,g3.trans h3⟩
theorem Kp(s:DSt)(f z:Int):(gk s f z).1.length<=255:=by
 rw[gk]
 split
 ·exact Nat.zero_le _
 ·split
  ·exact Nat.zero_le _
  ·split
   ·exact Nat.zero_le _
   ·split
    ·exact Nat.zero_le _
    ·rw[mn];have:=UInt8.toNat_lt (cD s f).1[2]!;omega
theorem yb{s:DSt}{m:Nat}(h:Dk s m)(f z:Int):Dk (cE s f z).1 (m+300)/\(cE s f z).1.aJ.length=s.aJ.length/\(cE s f z).1.keep=s.keep:=by
 have hl:=Kp s f z
 obtain⟨g1,g2,g3⟩:=EP h f (gk s f z).1
 rw[cE]
 split
 ·exact⟨h.mono ao,rfl,rfl⟩
 ·split
  ·exact⟨h.mono ao,rfl,rfl⟩
  ·split
   ·exact⟨h.mono ao,rfl,rfl⟩
   ·split
    ·exact⟨g1.mono ao,g2,g3⟩
    ·exact⟨g1.mono ao,g2,g3⟩
theorem xm{s:DSt}{m:Nat}(h:Dk s m){f z:Int}(hz:z<=65)(x:List Chg):Dk (cf s f z x).1 (m+300)/\(cf s f z x).1.aJ.length=s.aJ.length/\(cf s f z x).1.keep=s.keep:=by
 rw[cf]
 split
 ·exact⟨h.mono ao,rfl,rfl⟩
 ·rename_i h1
  have hx:(x.length:Int)<z:=by
   by_cases hh:z<=(x.length:Int)
   ·exact absurd (.inr hh) h1
   ·omega
  split
  ·exact⟨h.mono ao,rfl,rfl⟩
  ·obtain⟨a1,a2,a3⟩:=iK (x:=iF f x) h
   rw[ph] at a1
   unfold cJ
   split
   ·exact⟨a1.mono ao,a2,a3⟩
   ·dsimp only
    obtain⟨b1,b2,b3⟩:=iK (x:=[(f,cR x)]) a1
    split
    ·exact⟨b1.mono (by simp only[List.length_singleton];omega),b2.trans a2,b3.trans a3⟩
    ·obtain⟨c1,c2,c3⟩:=EP b1 f x
     exact⟨c1.mono (by simp only[List.length_singleton];omega),c2.trans (b2.trans a2),c3.trans (b3.trans a3)⟩
def Geo(f z n:Nat):Prop:=2<=z/\z<=65/\f+z<=n/\n<=4096
variable{f z n:Nat}
def qh(f z n:Nat)(y:List Chg):Prop:=(Geo f z n/\y.length<z)/\ ∀c∈y,(0<=c.1/\c.1<(f:Int)∨(f:Int)+z<=c.1/\c.1<(n:Int))/\c.2.length<=512
def Zero(f:Nat)(L:List (List UInt8)):Prop:=L[f]? =some gG
def Hd(f:Nat)(x:List Chg)(L:List (List UInt8)):Prop:=L[f]? =some (bF (cR x))/\ ∀j,j<x.length->L[f+1+j]? =some (bF x[j]!.2)
def yM(f z:Nat)(L T:List (List UInt8)):Prop:= ∀i,i<f∨f+z<=i->L[i]? =T[i]?
structure StA(f z n:Nat)(T L:List (List UInt8)):Prop where
 len:L.length=n
 zero:Zero f L
 out:yM f z L T
structure yP(f z n:Nat)(w:List (List UInt8))(x:List Chg)(L:List (List UInt8)):Prop where
 len:L.length=n
 hd:Hd f x L
 out: ∀i,i<f∨f+z<=i->oO x i->L[i]? =w[i]?
def GA(f z n:Nat)(w:List (List UInt8))(x:List Chg)(L:List (List UInt8)):Prop:=StA f z n w L∨StA f z n (a6 x w) L∨yP f z n w x L
theorem qh.ok{y:List Chg}(h:qh f z n y):OkC n y:=λc hc=>by obtain⟨⟨⟨g1,g2,g3,g4⟩,g5⟩,_⟩:=id h;obtain⟨h1,h2⟩:=h.2 c hc;exact⟨by omega,by omega,h2⟩
theorem qh.off{y:List Chg}(h:qh f z n y){i:Nat}(h1:f<=i)(h2:i<f+z):oO y i:=λc hc=>by obtain⟨h3,_⟩:=h.2 c hc;omega
theorem yP.sub{w L:List (List UInt8)}{x y:List Chg}(h:yP f z n w x L)(hx:qh f z n x)(hy: ∀i,oO x i->oO y i):yP f z n w x (a6 y L) where
 len:=by rw[dJ];exact h.len
 hd:=⟨by rw[bk y L f (hy f (hx.off ao (by have:=hx.1.1.1;omega)))];exact h.hd.1,λj hj=>by rw[bk y L (f+1+j) (hy _ (hx.off ao (by have:=hx.1.2;omega)))];exact h.hd.2 j hj⟩
 out:=λi hi ho=>by rw[bk y L i (hy i ho)];exact h.out i hi ho
theorem sub_one{c:Chg}{y:List Chg}(h:List.Sublist y [c]):y=[]∨y=[c]:=by
 cases h with
 |cons _ h=>exact .inl (List.eq_nil_of_sublist_nil h)
 |cons_cons _ h=>rw[List.eq_nil_of_sublist_nil h];exact .inr rfl
theorem I8: ∀(x:List Chg) (k:Nat) (L:List (List UInt8)) (j:Nat),j<x.length->f+1+k+x.length<=L.length->
 (a6 ((x.zipIdx k).map λp=>((f:Int)+1+(p.2:Int),p.1.2)) L)[f+1+k+j]? =some (bF x[j]!.2)
 | [],_,_,_,hj,_=>absurd hj (Nat.not_lt_zero _)
 |c::r,k,L,j,hj,hl=>by
  rw[List.length_cons] at hj hl
  rw[List.zipIdx_cons,List.map_cons]
  show(a6 ((r.zipIdx (k+1)).map _) (iv L ((f:Int)+1+(k:Int),c.2)))[f+1+k+j]? =_
  match j with
  |0=>
   rw[bk]
   ·unfold iv
    rw[show((f:Int)+1+(k:Int)).toNat=f+1+k from by omega]
    show(L.set (f+1+k) _)[f+1+k]? =_
    rw[List.getElem?_set_self ao];rfl
   ·intro d hd
    obtain⟨p,hp,rfl⟩:=List.mem_map.1 hd
    have:=List.le_snd_of_mem_zipIdx (x:=p) hp
    show((f:Int)+1+(p.2:Int)).toNat≠_
    omega
  |j+1=>
   have:=I8 r (k+1) (iv L ((f:Int)+1+(k:Int),c.2)) j ao (by unfold iv;rw[List.length_set];omega)
   rw[show f+1+k+(j+1)=f+1+(k+1)+j from by omega,this];rfl
theorem sQ{x:List Chg}{i:Nat}(h:i<f+1∨f+1+x.length<=i):oO (iF (f:Int) x) i:=by
 intro d hd
 obtain⟨p,hp,rfl⟩:=List.mem_map.1 hd
 have h1:=List.snd_lt_of_mem_zipIdx (x:=p) hp
 show((f:Int)+1+(p.2:Int)).toNat≠_
 omega
theorem Pn{x:List Chg}(h:qh f z n x):OkC n (iF (f:Int) x):=by
 obtain⟨⟨⟨g1,g2,g3,g4⟩,g5⟩,_⟩:=id h
 intro d hd
 obtain⟨p,hp,rfl⟩:=List.mem_map.1 hd
 have h1:=List.snd_lt_of_mem_zipIdx (x:=p) hp
 have h2:=List.fst_mem_of_mem_zipIdx (x:=p) hp
 have:=h.1
 exact⟨by show(0:Int)<=(f:Int)+1+(p.2:Int);omega,by show(f:Int)+1+(p.2:Int)<_;omega,(h.2 _ h2).2⟩
structure Clean(f z n:Nat)(s:DSt):Prop where
 off:s.off=false
 since:s.since=[]
 len:s.aJ.length=n
 zero:Zero f s.aJ
theorem th{s:DSt}{x:List Chg}(hs:Clean f z n s)(hx:qh f z n x)(hne:x≠ []):
 (cf s (f:Int) (z:Int) x).1.since=[]/\((cf s (f:Int) (z:Int) x).2=0/\(cf s (f:Int) (z:Int) x).1.off=false/\StA f z n (a6 x s.aJ) (cf s (f:Int) (z:Int) x).1.aJ/\(s.left=0->(cf s (f:Int) (z:Int) x).1.left=0)∨
   s.left≠0/\(cf s (f:Int) (z:Int) x).2=7/\(cf s (f:Int) (z:Int) x).1.off=true/\GA f z n s.aJ x (cf s (f:Int) (z:Int) x).1.aJ):=by
 obtain⟨⟨⟨ga,gb,gc,gd⟩,hxl⟩,_⟩:=id hx
 have hlen:=hs.len
 have e:cf s (f:Int) (z:Int) x=cJ (cF s (iF (f:Int) x)) λt=>cJ (jI t (f:Int) (cR x)) λt=>cJ (cF t x) λt=>jI t (f:Int) []:=by
  rw[cf,if_neg,if_neg]
  ·rfl
  ·rintro⟨c,hc,hb⟩
   obtain⟨h1,h2⟩:=hx.2 c hc
   have hb2:=of_decide_eq_true hb
   unfold jd at hb2
   rw[decide_eq_true_eq,hlen] at hb2
   omega
  ·rintro(h|h)
   ·exact hne h
   ·omega
 rw[e]
 obtain⟨a1,a2⟩:=jo hs.off hs.since (by rw[hlen];exact Pn hx)
 obtain⟨p,hp⟩: ∃p,p=cF s (iF (f:Int) x):=⟨_,rfl⟩
 rw[←hp] at a1 a2⊢
 rcases a2 with⟨b1,b2,b3,b4⟩|⟨b0,b1,b2,sub,b3,b4⟩
 ·have L1len:p.1.aJ.length=n:=by rw[b3,dJ];exact hlen
  have L1z:Zero f p.1.aJ:=by unfold Zero;rw[b3,bk _ _ f (sQ (.inl ao))];exact hs.zero
  have L1o:yM f z p.1.aJ s.aJ:=λi hi=>by rw[b3,bk _ _ i (sQ ao)]
  have L1i: ∀j,j<x.length->p.1.aJ[f+1+j]? =some (bF x[j]!.2):=λj hj=>by
   have:=I8 (f:=f) x 0 s.aJ j hj ao
   rw[b3];exact this
  have hL1:StA f z n s.aJ p.1.aJ:=⟨L1len,L1z,L1o⟩
  rw[cJ,if_neg (by rw[b1];exact λh=>h rfl)]
  have hhl:=w6 x
  obtain⟨c1,c2⟩:=jo (x:=[((f:Int),cR x)]) b2 a1 (by
   intro d hd;rw[List.mem_singleton] at hd;subst hd
   exact⟨by show(0:Int)<=(f:Int);omega,by show(f:Int)<_;omega,by show(cR x).length<=512;omega⟩)
  obtain⟨q,hq⟩: ∃q,q=cF p.1 [((f:Int),cR x)]:=⟨_,rfl⟩
  have e2:jI p.1 (f:Int) (cR x)=q:=hq.symm
  rw[←hq] at c1 c2
  rw[e2]
  have hset:yP f z n s.aJ x (a6 [((f:Int),cR x)] p.1.aJ):=by
   refine⟨by rw[dJ];exact L1len,⟨?_,λj hj=>?_⟩,λi hi ho=>?_⟩
   ·show(p.1.aJ.set (f:Int).toNat (bF (cR x)))[f]? =_
    rw[Int.toNat_natCast,List.getElem?_set_self ao]
   ·rw[bk _ _ _ (by intro d hd;rw[List.mem_singleton] at hd;subst hd;show(f:Int).toNat≠_;omega)];exact L1i j hj
   ·rw[bk _ _ _ (by intro d hd;rw[List.mem_singleton] at hd;subst hd;show(f:Int).toNat≠_;omega)];exact L1o i hi
  rcases c2 with⟨d1,d2,d3,d4⟩|⟨d0,d1,d2,sub,d3,d4⟩
  ·rw[←d3] at hset
   have hqlen:=hset.len
   rw[cJ,if_neg (by rw[d1];exact λh=>h rfl)]
   obtain⟨g1,g2⟩:=jo (x:=x) d2 c1 (by rw[hqlen];exact hx.ok)
   obtain⟨r,hr⟩: ∃r,r=cF q.1 x:=⟨_,rfl⟩
   rw[←hr] at g1 g2⊢
   rcases g2 with⟨h1,h2,h3,h4⟩|⟨h0,h1,h2,sub,h3,h4⟩
   ·have hred:yP f z n s.aJ x r.1.aJ:=by rw[h3];exact hset.sub hx (λ_ h=>h)
    have hrl:=hred.len
    have hrout:yM f z r.1.aJ (a6 x s.aJ):=λi hi=>by
     rw[h3];exact uh x _ _ i (by rw[hqlen,hlen]) (λho=>hset.out i hi ho)
    have hz:StA f z n (a6 x s.aJ) (a6 [((f:Int),[])] r.1.aJ):=by
     refine⟨by rw[dJ];exact hrl,?_,λi hi=>?_⟩
     ·show(r.1.aJ.set (f:Int).toNat (bF []))[f]? =_
      rw[Int.toNat_natCast,List.getElem?_set_self ao];rfl
     ·rw[bk _ _ _ (by intro d hd;rw[List.mem_singleton] at hd;subst hd;show(f:Int).toNat≠_;omega)];exact hrout i hi
    rw[cJ,if_neg (by rw[h1];exact λh=>h rfl)]
    obtain⟨k1,k2⟩:=jo (x:=[((f:Int),[])]) h2 g1 (by
     intro d hd;rw[List.mem_singleton] at hd;subst hd
     exact⟨by show(0:Int)<=(f:Int);omega,by show(f:Int)<_;omega,Nat.zero_le _⟩)
    have e3:jI r.1 (f:Int) []=cF r.1 [((f:Int),[])]:=rfl
    rw[e3]
    rcases k2 with⟨l1,l2,l3,l4⟩|⟨l0,l1,l2,sub,l3,l4⟩
    ·exact⟨k1,.inl ⟨l1,l2,by rw[l3];exact hz,λh=>l4 (h4 (d4 (b4 h)))⟩⟩
    ·refine⟨k1,.inr ⟨λh=>l0 (h4 (d4 (b4 h))),l1,l2,?_⟩⟩
     rw[l4]
     rcases sub_one l3 with rfl|rfl
     ·exact .inr (.inr hred)
     ·exact .inr (.inl hz)
   ·rw[cJ,if_pos (by rw[h1];decide)]
    refine⟨g1,.inr ⟨λh=>h0 (d4 (b4 h)),h1,h2,.inr (.inr ?_)⟩⟩
    rw[h4]
    exact hset.sub hx (λ_ h=>fr h h3)
  ·rw[cJ,if_pos (by rw[d1];decide)]
   refine⟨c1,.inr ⟨λh=>d0 (b4 h),d1,d2,?_⟩⟩
   rw[d4]
   rcases sub_one d3 with rfl|rfl
   ·exact .inl hL1
   ·exact .inr (.inr hset)
 ·rw[cJ,if_pos (by rw[b1];decide)]
  refine⟨a1,.inr ⟨b0,b1,b2,.inl ⟨by rw[b4,dJ];exact hlen,?_,λi hi=>?_⟩⟩⟩
  ·unfold Zero;rw[b4,bk _ _ f (fr (sQ (.inl ao)) b3)];exact hs.zero
  ·rw[b4,bk _ _ i (fr (sQ ao) b3)]
theorem lf{s:DSt}(ho:s.off=false)(hs:s.since=[]){i:Nat}(hi:i<s.aJ.length):cD s (i:Int)=(s.aJ[i]!,0):=by
 have e1:hasB s (i:Int)=true:=by unfold hasB;rw[decide_eq_true_eq];omega
 unfold cD
 rw[if_neg (λh=>h e1),if_neg (by rw[ho];exact Bool.false_ne_true),hs]
 rfl
theorem iG{L:List (List UInt8)}{i:Nat}{v:List UInt8}(h:L[i]? =some v):L[i]! =v:=by
 rw[List.getElem!_eq_getElem?_getD,h];rfl
theorem GK{s:DSt}(hg:Geo f z n)(hs:Clean f z n s):gk s (f:Int) (z:Int)=([],0):=by
 have h3:cD s (f:Int)=(gG,0):=by
  have:=lf hs.off hs.since (i:=f) (by rw[hs.len];obtain⟨ga,gb,gc,gd⟩:=hg;omega)
  rw[iG hs.zero] at this;exact this
 rw[gk,h3,if_neg (λh=>h rfl),if_pos (.inl ct)]
theorem Kk{s:DSt}(hg:Geo f z n)(h:s.aJ.length=n):fS s (f:Int) (z:Int)=true:=by
 obtain⟨ga,gb,gc,gd⟩:=hg;unfold fS;rw[decide_eq_true_eq,h];omega
theorem oF{s:DSt}(hg:Geo f z n)(hs:Clean f z n s):cE s (f:Int) (z:Int)=(s,0,0):=by
 rw[cE,if_neg (by rw[Kk hg hs.len];exact λh=>h rfl),GK hg hs,if_neg (λh=>h rfl),if_pos rfl]
def gj(x:List Chg):List Chg:=x.map λc=>(c.1,bF c.2)
theorem Df{x:List Chg}(h: ∀c∈x,c.2.length<=512):cR (gj x)=cR x:=by
 have e1:hdB (gj x)=hdB x:=by
  unfold hdB gj
  rw[List.length_map,List.flatMap_map]
 have e2:gu (gj x)=gu x:=by
  have e:(gj x).flatMap (λc=>bF c.2)=x.flatMap λc=>bF c.2:=by
   unfold gj
   induction x with
   |nil=>rfl
   |cons c r ih=>rw[List.map_cons,List.flatMap_cons,List.flatMap_cons,ih (λd hd=>h d (List.mem_cons_of_mem _ hd)) (by unfold hdB gj;rw[List.length_map,List.flatMap_map]),oC (h c List.mem_cons_self)]
  unfold gu
  rw[e1,e]
 unfold cR
 rw[e1,e2]
theorem NB: ∀(x:List Chg) (r:List UInt8) (i:Nat),i<x.length->
 ((x.flatMap λc=>[byteOf (c.1.toNat/256),byteOf c.1.toNat])++r)[2*i]? =some (byteOf (x[i]!.1.toNat/256))/\((x.flatMap λc=>[byteOf (c.1.toNat/256),byteOf c.1.toNat])++r)[2*i+1]? =some (byteOf x[i]!.1.toNat)
 | [],_,_,h=>absurd h (Nat.not_lt_zero _)
 |c::x,r,0,_=>⟨rfl,rfl⟩
 |c::x,r,i+1,h=>by
  have:=NB x r i (by rw[List.length_cons] at h;omega)
  rw[List.flatMap_cons,show 2*(i+1)=2*i+1+1 from by omega]
  exact this
theorem qY{s:DSt}{x:List Chg}{w:List (List UInt8)}(ho:s.off=false)(hs:s.since=[])(h:yP f z n w x s.aJ)(hx:qh f z n x):na s (f:Int) (bF (cR x)) x.length=gj x:=by
 obtain⟨⟨⟨ga,gb,gc,gd⟩,hxl⟩,_⟩:=id hx
 have hlen:=h.len
 refine List.ext_getElem (by rw[mn];unfold gj;rw[List.length_map]) (λj h1 h2=>?_)
 rw[mn] at h1
 have hg:=Ng (s:=s) (f:=(f:Int)) (h:=bF (cR x)) h1
 rw[getElem!_pos _ j (by rw[mn];exact h1)] at hg
 rw[hg]
 have hf:(gj x)[j]=(x[j]!.1,bF x[j]!.2):=by simp[gj,getElem!_pos x j h1]
 rw[hf]
 obtain⟨t1,t2⟩:=hx.2 _ (qz h1)
 have hfe:bF (cR x)=87::76::byteOf x.length::((x.flatMap λc=>[byteOf (c.1.toNat/256),byteOf c.1.toNat])++(le4 (dx (gu x))++List.replicate (512-(cR x).length) 0)):=by
  have e1:bF (cR x)=(([87,76,byteOf x.length]++x.flatMap λc=>[byteOf (c.1.toNat/256),byteOf c.1.toNat])++le4 (dx (gu x)))++List.replicate (512-(cR x).length) 0:=rfl
  rw[e1,List.append_assoc,List.append_assoc];rfl
 obtain⟨f1,f2⟩:=NB x (le4 (dx (gu x))++List.replicate (512-(cR x).length) 0) j h1
 have g1:(bF (cR x))[3+2*j]? =some (byteOf (x[j]!.1.toNat/256)):=by rw[hfe,show 3+2*j=2*j+1+1+1 from by omega];exact f1
 have g2:(bF (cR x))[4+2*j]? =some (byteOf x[j]!.1.toNat):=by rw[hfe,show 4+2*j=2*j+1+1+1+1 from by omega];exact f2
 have b1:(bF (cR x))[3+2*j]! =byteOf (x[j]!.1.toNat/256):=by rw[List.getElem!_eq_getElem?_getD,g1];rfl
 have b2:(bF (cR x))[4+2*j]! =byteOf x[j]!.1.toNat:=by rw[List.getElem!_eq_getElem?_getD,g2];rfl
 have hr:=lf ho hs (i:=f+1+j) ao
 rw[iG (h.hd.2 j h1)] at hr
 unfold I2
 rw[b1,b2,show(f:Int)+1+(j:Int)=((f+1+j:Nat):Int) from by omega,hr]
 have n1:(byteOf (x[j]!.1.toNat/256)).toNat=x[j]!.1.toNat/256:=by
  unfold byteOf;rw[UInt8.toNat_ofNat'];omega
 have n2:(byteOf x[j]!.1.toNat).toNat=x[j]!.1.toNat%256:=by
  unfold byteOf;rw[UInt8.toNat_ofNat'];omega
 rw[n1,n2]
 refine Prod.ext ?_ rfl
 show((x[j]!.1.toNat/256*256+x[j]!.1.toNat%256:Nat):Int)=x[j]!.1
 omega
theorem rS: ∀{x:List Chg},(∀c∈x,c.2.length<=512)-> ∀L,a6 (gj x) L=a6 x L
 | [],_,_=>rfl
 |c::r,h,L=>by
  show a6 (gj r) (iv L (c.1,bF c.2))=a6 r (iv L c)
  rw[rS (λd hd=>h d (List.mem_cons_of_mem _ hd))]
  unfold iv
  rw[oC (h c List.mem_cons_self)]
theorem wJ{x:List Chg}{i:Nat}(h:oO x i):oO (gj x) i:=by
 intro d hd
 obtain⟨c,hc,rfl⟩:=List.mem_map.1 hd
 exact h c hc
theorem FK{s:DSt}{x:List Chg}{w:List (List UInt8)}(ho:s.off=false)(hs:s.since=[])(h:yP f z n w x s.aJ)(hx:qh f z n x)(hne:x≠ []):gk s (f:Int) (z:Int)=(gj x,0):=by
 obtain⟨⟨⟨ga,gb,gc,gd⟩,hxl⟩,_⟩:=id hx
 have h3:cD s (f:Int)=(bF (cR x),0):=by
  have:=lf ho hs (i:=f) (by rw[h.len];omega)
  rw[iG h.hd.1] at this;exact this
 have hn:((bF (cR x))[2]!).toNat=x.length:=by
  have:(bF (cR x))[2]! =byteOf x.length:=rfl
  rw[this];unfold byteOf;rw[UInt8.toNat_ofNat'];omega
 have h0:1<=x.length:=List.length_pos_iff.2 hne
 have:=Ge (s:=s) (f:=(f:Int)) (z:=(z:Int)) (n:=x.length) (by rw[h3]) (by rw[h3];exact hn.symm) h0 ao
  (by
    rw[h3,qY ho hs h hx]
    intro c hc
    obtain⟨d,hd,rfl⟩:=List.mem_map.1 hc
    obtain⟨t1,_⟩:=hx.2 d hd
    unfold jd
    rw[decide_eq_true_eq,h.len]
    show 0<=d.1/\_
    omega)
  (by rw[h3,qY ho hs h hx,Df (λc hc=>(hx.2 c hc).2)])
 rw[this,h3,qY ho hs h hx]
theorem Jg{s:DSt}{x:List Chg}{w:List (List UInt8)}(ho:s.off=false)(hs:s.since=[])(hw:w.length=n)(h:GA f z n w x s.aJ)(hx:qh f z n x)(hne:x≠ []):
 (cE s (f:Int) (z:Int)).1.since=[]/\((cE s (f:Int) (z:Int)).2.2=0/\(cE s (f:Int) (z:Int)).1.off=false/\(StA f z n w (cE s (f:Int) (z:Int)).1.aJ∨StA f z n (a6 x w) (cE s (f:Int) (z:Int)).1.aJ)/\(s.left=0->(cE s (f:Int) (z:Int)).1.left=0)/\((cE s (f:Int) (z:Int)).2.1=0∨(cE s (f:Int) (z:Int)).2.1=x.length)∨
   s.left≠0/\(cE s (f:Int) (z:Int)).2.2=7/\(cE s (f:Int) (z:Int)).1.off=true/\GA f z n w x (cE s (f:Int) (z:Int)).1.aJ):=by
 rcases h with h|h|h
 ·rw[oF hx.1.1 ⟨ho,hs,h.len,h.zero⟩]
  exact⟨hs,.inl ⟨rfl,ho,.inl h,λh=>h,.inl rfl⟩⟩
 ·rw[oF hx.1.1 ⟨ho,hs,h.len,h.zero⟩]
  exact⟨hs,.inl ⟨rfl,ho,.inr h,λh=>h,.inl rfl⟩⟩
 ·have hd2: ∀c∈x,c.2.length<=512:=λc hc=>(hx.2 c hc).2
  have hsd:=FK ho hs h hx hne
  have hlen:=h.len
  obtain⟨⟨⟨ga,gb,gc,gd⟩,hxl⟩,_⟩:=id hx
  have hnf:gj x≠ []:=by unfold gj;intro h;exact hne (List.map_eq_nil_iff.1 h)
  have hfl:(gj x).length=x.length:=by unfold gj;rw[List.length_map]
  obtain⟨p,hp⟩: ∃p,p=k6 s (f:Int) (gj x):=⟨_,rfl⟩
  have key:p.1.since=[]/\(p.2=0/\p.1.off=false/\StA f z n (a6 x w) p.1.aJ/\(s.left=0->p.1.left=0)∨s.left≠0/\p.2=7/\p.1.off=true/\GA f z n w x p.1.aJ):=by
   rw[hp]
   unfold k6
   obtain⟨a1,a2⟩:=jo (x:=gj x) ho hs (by
    intro c hc
    obtain⟨d,hd,rfl⟩:=List.mem_map.1 hc
    obtain⟨t1,t2⟩:=hx.2 d hd
    exact⟨by show 0<=d.1;omega,by show d.1<_;omega,by show(bF d.2).length<=512;rw[fH t2];exact Nat.le_refl _⟩)
   obtain⟨q,hq⟩: ∃q,q=cF s (gj x):=⟨_,rfl⟩
   rw[←hq] at a1 a2⊢
   rcases a2 with⟨b1,b2,b3,b4⟩|⟨b0,b1,b2,sub,b3,b4⟩
   ·have hred:yP f z n w x q.1.aJ:=by rw[b3];exact h.sub hx (λ_ h=>wJ h)
    have hql:=hred.len
    have hz:StA f z n (a6 x w) (a6 [((f:Int),[])] q.1.aJ):=by
     refine⟨by rw[dJ];exact hql,?_,λi hi=>?_⟩
     ·show(q.1.aJ.set (f:Int).toNat (bF []))[f]? =_
      rw[Int.toNat_natCast,List.getElem?_set_self ao];rfl
     ·rw[bk _ _ _ (by intro d hd;rw[List.mem_singleton] at hd;subst hd;show(f:Int).toNat≠_;omega),b3,rS hd2]
      exact uh x _ _ i (by rw[hlen,hw]) (λho=>h.out i hi ho)
    rw[cJ,if_neg (by rw[b1];exact λh=>h rfl)]
    obtain⟨k1,k2⟩:=jo (x:=[((f:Int),[])]) b2 a1 (by
     intro d hd;rw[List.mem_singleton] at hd;subst hd
     exact⟨by show(0:Int)<=(f:Int);omega,by show(f:Int)<_;omega,Nat.zero_le _⟩)
    have e3:jI q.1 (f:Int) []=cF q.1 [((f:Int),[])]:=rfl
    rw[e3]
    rcases k2 with⟨l1,l2,l3,l4⟩|⟨l0,l1,l2,sub,l3,l4⟩
    ·exact⟨k1,.inl ⟨l1,l2,by rw[l3];exact hz,λh=>l4 (b4 h)⟩⟩
    ·refine⟨k1,.inr ⟨λh=>l0 (b4 h),l1,l2,?_⟩⟩
     rw[l4]
     rcases sub_one l3 with rfl|rfl
     ·exact .inr (.inr hred)
     ·exact .inr (.inl hz)
   ·rw[cJ,if_pos (by rw[b1];decide)]
    refine⟨a1,.inr ⟨b0,b1,b2,.inr (.inr ?_)⟩⟩
    rw[b4]
    exact h.sub hx (λ_ h=>fr (wJ h) b3)
  have e:cE s (f:Int) (z:Int)=if p.2≠0 then(p.1,0,p.2) else(p.1,x.length,0):=by
   rw[cE,if_neg (by rw[Kk hx.1.1 hlen];exact λh=>h rfl),hsd,if_neg (λh=>h rfl),if_neg hnf,←hp,hfl]
  rw[e]
  obtain⟨k1,k2⟩:=key
  rcases k2 with⟨l1,l2,l3,l4⟩|⟨l0,l1,l2,l3⟩
  ·rw[if_neg (by rw[l1];exact λh=>h rfl)]
   exact⟨k1,.inl ⟨rfl,l2,.inr l3,l4,.inr rfl⟩⟩
  ·rw[if_pos (by rw[l1];decide)]
   exact⟨k1,.inr ⟨l0,l1,l2,l3⟩⟩
end Go.Proofs.YtebpkhlifcffnaaGreatDoor
namespace Go.Proofs.YtebpkhlifcffnaaGreatDoor.Fs
open Go Go.SL
abbrev Tx:=List UInt8
structure Ino where
 e:Nat
 n:Nat
 x:List Ext
def Bq(n:Nat):Tx:=[byteOf (n/256),byteOf n]
def gD(n files:Nat):Tx:=bF ([83,70]++Bq n++Bq files)
def bc(n:Nat):Nat:=(n+511)/512
def lC(x:Ext):Tx:=cV x.1++cV x.2
def iT(name:Tx)(i:Ino):Tx:=bD [name]++cV i.n++cV i.x.length++i.x.flatMap lC
def bW(name:Tx)(i:Ino):Tx:=bF (iT name i++le4 (dx (iT name i)))
def oU(s:Tx):Prop:=1<=s.length/\s.length<=80/\ ∀c∈s,33<=c.toNat/\c.toNat<=126
structure gE(files:Nat)(name:Tx)(i:Ino):Prop where
 iU:oU name
 e:i.e<files
 n:i.n<=1048576
 len:i.x.length<=64
 sum:cY i.x=bc i.n
 ext: ∀x∈i.x,1<=x.2/\x.1+x.2<=4096
theorem eu{n k:Nat}(h:n<128^(k+1)):(cV n).length<=k+1:=by
 rw[c5];have:=yD.1 h;omega
theorem Lf{x:Ext}(h:x.1+x.2<=4096):(lC x).length<=4:=by
 have h1:=eu (n:=x.1) (k:=1) (Nat.lt_of_le_of_lt (by omega:x.1<=4096) ct)
 have h2:=eu (n:=x.2) (k:=1) (Nat.lt_of_le_of_lt (by omega:x.2<=4096) ct)
 unfold lC;rw[List.length_append];omega
theorem pS: ∀{xs:List Ext},(∀x∈xs,x.1+x.2<=4096)->(xs.flatMap lC).length<=4*xs.length
 | [],_=>Nat.le_refl _
 |x::r,h=>by
  have h1:=pS (xs:=r) (λy hy=>h y (List.mem_cons_of_mem _ hy))
  have h2:=Lf (h x List.mem_cons_self)
  rw[List.flatMap_cons,List.length_append,List.length_cons];omega
theorem zO{name:Tx}(h:name.length<=262144):bD [name]=cV name.length++name:=by
 rw[ec,gy h];simp[bD]
theorem gE.ent{files:Nat}{name:Tx}{i:Ino}(h:gE files name i):(iT name i).length<=346:=by
 obtain⟨g1,g2,_⟩:=h.iU
 have h1:=eu (n:=name.length) (k:=0) ao
 have h2:=eu (n:=i.n) (k:=2) (Nat.lt_of_le_of_lt h.n ct)
 have h3:=eu (n:=i.x.length) (k:=0) (by have:=h.len;omega)
 have h4:=pS (xs:=i.x) (λx hx=>(h.ext x hx).2)
 have h5:=h.len
 unfold iT
 rw[zO ao]
 simp only[List.length_append]
 omega
theorem gE.LO{files:Nat}{name:Tx}{i:Ino}(h:gE files name i):(iT name i++le4 (dx (iT name i))).length<=350:=by
 have:=h.ent
 rw[List.length_append];show _+4<=_;omega
theorem gE.entry{files:Nat}{name:Tx}{i:Ino}(h:gE files name i):(bW name i).length=512:=fH (by have:=h.LO;omega)
theorem Ii{files:Nat}{name:Tx}{i:Ino}(h:gE files name i):bW name i≠gG:=by
 obtain⟨g1,g2,_⟩:=h.iU
 intro he
 have h1:=eu (n:=name.length) (k:=0) ao
 have h0: ∃r,bW name i=cV name.length++r:=by
  refine⟨name++cV i.n++cV i.x.length++i.x.flatMap lC++le4 (dx (iT name i))++List.replicate (512-(iT name i++le4 (dx (iT name i))).length) 0,?_⟩
  unfold bW bF iT
  rw[zO ao]
  simp only[List.append_assoc]
 obtain⟨r,hr⟩:=h0
 have hg:=uR (n:=name.length) ao r
 rw[←hr,he] at hg
 have hz:(fF gG).1=0:=by decide +kernel
 rw[hg] at hz
 have:(name.length:Int)=0:=hz
 omega
def gX(xs:List Ext):List Nat:=xs.flatMap λx=>(List.range x.2).map (x.1+ ·)
theorem xi: ∀(xs:List Ext),(gX xs).length=cY xs
 | []=>rfl
 |x::r=>by
  have:=xi r
  unfold gX at this⊢
  rw[List.flatMap_cons,List.length_append,this,oy];simp
theorem GL(xs ys:List Ext):gX (xs++ys)=gX xs++gX ys:=by unfold gX;rw[List.flatMap_append]
theorem qV{xs:List Ext}{i:Nat}:i∈gX xs↔InX xs i:=by
 unfold gX InX
 rw[List.mem_flatMap]
 constructor
 ·rintro⟨x,hx,hm⟩
  obtain⟨k,hk,rfl⟩:=List.mem_map.1 hm
  rw[List.mem_range] at hk
  exact⟨x,hx,by omega,by omega⟩
 ·rintro⟨x,hx,h1,h2⟩
  exact⟨x,hx,List.mem_map.2 ⟨i-x.1,by rw[List.mem_range];omega,by omega⟩⟩
theorem rU{n:Nat}{v:Bool}: ∀{xs:List Ext} {f:Nat->Bool},bU n v f xs->(gX xs).Nodup
 | [],_,_=>List.nodup_nil
 |x::r,f,h=>by
  have ih:=rU h.2
  have e:gX (x::r)=(List.range x.2).map (x.1+ ·)++gX r:=by unfold gX;rw[List.flatMap_cons]
  rw[e,List.nodup_append]
  refine⟨List.Pairwise.map _ (λa b (hab:a≠b)=>by simpa using hab) List.nodup_range,ih,λa ha b hb hab=>?_⟩
  obtain⟨k,hk,rfl⟩:=List.mem_map.1 ha
  rw[List.mem_range] at hk
  subst hab
  obtain⟨y,hy,h1,h2⟩:=qV.1 hb
  have:=(h.2.mem y hy).2.2 _ h1 h2
  unfold gn at this
  rw[if_pos ⟨by omega,by omega⟩] at this
  cases v<;>simp at this
theorem bU.flip{n:Nat}{v:Bool}: ∀{xs:List Ext} {f g:Nat->Bool},bU n v f xs->(∀i,InX xs i->g i=v)->bU n (!v) g xs
 | [],_,_,_,_=>trivial
 |x::r,f,g,h,hg=>by
  refine⟨⟨h.1.1,h.1.2.1,λi hi hj=>by rw[Bool.not_not];exact hg i ⟨x,List.mem_cons_self,hi,hj⟩⟩,h.2.flip λi hi=>?_⟩
  obtain⟨y,hy,h1,h2⟩:=hi
  unfold gn
  split
  ·rename_i hc
   have:=(h.2.mem y hy).2.2 i h1 h2
   unfold gn at this
   rw[if_pos hc] at this
   cases v<;>simp at this
  ·exact hg i ⟨y,List.mem_cons_of_mem _ hy,h1,h2⟩
theorem bU.back{n:Nat}{v:Bool}{xs:List Ext}{f:Nat->Bool}(h:bU n v f xs):bU n (!v) (bP v f xs) xs:=
 h.flip λi hi=>by rw[iE,mF.2 hi,if_pos rfl]
abbrev FS:=Tx->Option Ino
structure FOk(un files:Nat)(F:FS)(sp:Nat->Bool):Prop where
 ok: ∀name x,F name=some x->gE files name x
 inj: ∀a b x y,F a=some x->F b=some y->x.e=y.e->a=b
 tk: ∀name x,F name=some x->bU un false sp x.x
 dis: ∀a b x y i,F a=some x->F b=some y->InX x.x i->InX y.x i->a=b
 all: ∀i,sp i=true-> ∃name x,F name=some x/\InX x.x i
theorem FOk.on{un files:Nat}{F:FS}{sp:Nat->Bool}(h:FOk un files F sp){name:Tx}{x:Ino}(hx:F name=some x){i:Nat}(hi:InX x.x i):sp i=true/\i<un:=by
 obtain⟨y,hy,h1,h2⟩:=hi
 obtain⟨_,g2,g3⟩:=(h.tk name x hx).mem y hy
 exact⟨g3 i h1 h2,by omega⟩
theorem FOk.iff{un files:Nat}{F:FS}{sp:Nat->Bool}(h:FOk un files F sp)(i:Nat):sp i=true↔ ∃name x,F name=some x/\InX x.x i:=
 ⟨h.all i,λ⟨_,_,hx,hi⟩=>(h.on hx hi).1⟩
theorem FOk.out{un files:Nat}{F:FS}{sp:Nat->Bool}(h:FOk un files F sp)(i:Nat)(hi:un<=i):sp i=false:=by
 cases e:sp i with
 |false=>rfl
 |true=>obtain⟨name,x,hx,hin⟩:=h.all i e;have:=(h.on hx hin).2;omega
def Eo(F:FS)(i:Nat)(l:Option Tx):Prop:=(∃name x,F name=some x/\x.e=i/\l=some (bW name x))∨((∀name x,F name=some x->x.e≠i)/\l=some gG)
structure gF(n files:Nat)(F:FS)(sp:Nat->Bool)(L:List Tx):Prop where
 fok:FOk (n-(7+files)) files F sp
 len:L.length=n
 w: ∀l∈L,l.length=512
 head:L[0]? =some (gD n files)
 bits:L[1]? =some (bF (spB (n-(7+files)) sp))
 ent: ∀i,i<files->Eo F i L[2+i]?
def jy(L:List Tx)(da:Nat)(i:Ino):Tx:=((gX i.x).flatMap λu=>L[da+u]!).take i.n
def ej(L:List Tx)(da:Nat)(F:FS)(name:Tx):Option Tx:=(F name).map (jy L da)
theorem gF.same{n files:Nat}{F:FS}{sp:Nat->Bool}{L M:List Tx}(h:gF n files F sp L)(hl:M.length=n)(hw: ∀l∈M,l.length=512)(hs: ∀i,i<2+files->M[i]? =L[i]?):gF n files F sp M:=
 ⟨h.fok,hl,hw,by rw[hs 0 ao];exact h.head,by rw[hs 1 ao];exact h.bits,λi hi=>by rw[hs (2+i) ao];exact h.ent i hi⟩
end Go.Proofs.YtebpkhlifcffnaaGreatDoor.Fs

namespace Go.Proofs.YtebpkhlifcffnaaGreatDoor
open Go Go.SL
theorem Ab{k:UInt8}{b:List UInt8}(h:b.length<=262144):eQ k b=k::(cV b.length++(b++le4 (dx (bare k b)))):=by
 rw[eQ,if_neg ao,bare,gy h,List.cons_append,List.append_assoc]
theorem p8{k:UInt8}{b:List UInt8}(h:b.length<=262144):(eQ k b).length=(cV b.length).length+b.length+5:=by
 rw[Ab h,List.length_cons,List.length_append,List.length_append,show(le4 (dx (bare k b))).length=4 from rfl];omega
theorem Cf{k:UInt8}{b:List UInt8}(h:b.length<=262144)(t:List UInt8):sh (eQ k b++t)=(k.toNat,b,((eQ k b).length:Int),0):=by
 have hl:=p8 (k:=k) h
 have e:eQ k b++t=k::(cV b.length++(b++(le4 (dx (bare k b))++t))):=by
  rw[Ab h,List.cons_append,List.append_assoc,List.append_assoc]
 have hn:=j8 h (le4 (dx (bare k b))++t)
 have hbl:=si (k:=k) h
 have e2:eQ k b++t=bare k b++(le4 (dx (bare k b))++t):=by rw[eQ,if_neg ao,List.append_assoc]
 have h4:(le4 (dx (bare k b))).length=4:=rfl
 have t1:(k::(cV b.length++(b++(le4 (dx (bare k b))++t)))).take ((cV b.length).length+b.length+1)=bare k b:=by
  rw[←e,e2,←hbl,List.take_left]
 have t2:((k::(cV b.length++(b++(le4 (dx (bare k b))++t)))).take ((cV b.length).length+b.length+5)).drop ((cV b.length).length+b.length+1)=le4 (dx (bare k b)):=by
  rw[←e,e2,←List.append_assoc,List.take_append_of_le_length (by rw[List.length_append];omega),List.take_of_length_le (by rw[List.length_append];omega),←hbl,List.drop_left]
 have hlen:((cV b.length++(b++(le4 (dx (bare k b))++t))).length:Int)=(cV b.length).length+b.length+4+t.length:=by
  rw[List.length_append,List.length_append,List.length_append,h4];omega
 rw[e,sh,hn]
 simp only[ne_eq,not_true_eq_false,if_false]
 rw[if_neg (by rw[hlen];omega),Int.toNat_natCast,t1,t2,if_neg (by simp),hl]
 refine Prod.ext rfl (Prod.ext rfl (Prod.ext ?_ rfl))
 show(((cV b.length).length+b.length:Nat):Int)+5=(((cV b.length).length+b.length+5:Nat):Int)
 omega
end Go.Proofs.YtebpkhlifcffnaaGreatDoor
namespace Go.SL
open Go Go.RowKit
def fw(ro:Option Nat):Fence:={Fence.wide with round:=ro}
theorem C1{P:Program}{ro:Option Nat}{m m':Machine}:StepsIn (Machine.fenced P (fw ro)) P m m'↔Steps P m m':=stepsIn_wide
theorem mv{P:Program}{ro:Option Nat}{k:Nat}{f:FuncId}{args:Array Value}{w:World}{R:Ending->World->Prop}:CallsIn (fw ro) k P f args w R↔Calls P f args w R:=callsIn_wide (n:=k)
def pV(l:List Oper):Bool:=l.all λo=>match o.op with
 | .defer _=>false
 |_=>true
theorem kG{l:List Oper}(h:pV l=true){o:Oper}(ho:o∈l): ∀c,o.op≠ .defer c:=λc e=>by
 have:=List.all_eq_true.1 h o ho
 rw[e] at this
 cases this
section
variable{P:Program}{ro:Option Nat}{o:Oper}{a:Act}{w:World}{K:Act->World->Prop}{Q:Exit->Act->World->Prop}{ops:Array Oper}{md:Region.Mode}
theorem zW(hd: ∀c,o.op≠ .defer c)(h:o.wp P a w K Q):o.wpIn (fw ro) 0 P a w K Q:=by
 refine⟨λ_ _=>trivial,?_⟩
 show o.uponIn _ _ _ _ _ _ ((o.semAt ro a.eval).run P w)
 rw[Oper.semAt_eq ro a.eval o hd]
 unfold Oper.wp at h
 generalize (execOp a.eval o).run P w=r at h⊢
 have dep:(fw ro).depth.isSome=true->1<=0:=λhx=>by cases hx
 cases r with
 |ok x w'=>
  cases x with
  |value v=>exact h
  |skip=>exact h
  |defer d=>exact h
  |enter f args=>exact⟨dep,mv.2 h⟩
  |row row args=>exact⟨dep,λc cs _=>let⟨v,w',r,s⟩:=h c cs;⟨v,w',r,C1.2 s⟩⟩
  |round l f tmps assign body=>exact h.elim
  |_=>exact h.elim
 |halt x w'=>cases x<;>exact h
theorem LL{i:Nat}(hd: ∀o∈ops.toList,∀c,o.op≠ .defer c)(hQ: ¬LetsOut Q)(h:wpOp P ops Q i K a w):wpOpIn (fw ro) 0 P ops Q i K a w:=by
 unfold wpOp at h
 unfold wpOpIn
 cases e:ops[i]? with
 |none=>rw[e] at h;exact h
 |some o=>
  rw[e] at h
  simp only at h⊢
  have hm:o∈ops.toList:=Array.mem_toList_iff.2 (Array.mem_of_getElem? e)
  split
  ·rename_i hw
   rw[if_pos hw] at h
   rcases h with h|h
   ·exact zW (hd o hm) h
   ·exact absurd h.2 hQ
  ·rename_i hw
   rw[if_neg hw] at h
   exact⟨λ_ _=>trivial,h⟩
theorem qd(hd: ∀o∈ops.toList,∀c,o.op≠ .defer c)(hQ: ¬LetsOut Q): ∀(fuel:Nat) (listed:Array Bool) (a:Act) (w:World),wpAny P md ops Q fuel listed a w->wpAnyIn (fw ro) 0 P md ops Q fuel listed a w
 |0,_,_,_,h=>h
 |fuel+1,listed,a,w,h=>⟨h.1,λi hi=>wpOpIn_mono (λa w=>qd hd hQ fuel _ a w) (LL hd hQ (h.2 i hi))⟩
theorem qS(hQ: ¬LetsOut Q): ∀(l:List Oper) (a:Act) (w:World),(∀o∈l,∀c,o.op≠ .defer c)->wpList P ops Q l a w->wpListIn (fw ro) 0 P ops Q l a w
 | [],_,_,_,h=>h
 |o::l,a,w,hd,h=>by
  unfold wpList at h
  unfold wpListIn
  split
  ·rename_i hw
   rw[if_pos hw] at h
   rcases h with h|h
   ·exact Oper.wpIn_mono (λa w=>qS hQ l a w (λo ho=>hd o (List.mem_cons_of_mem _ ho))) (zW (hd o List.mem_cons_self) h)
   ·exact absurd h.2 hQ
  ·rename_i hw
   rw[if_neg hw] at h
   exact⟨λ_ _=>trivial,qS hQ l _ w (λo ho=>hd o (List.mem_cons_of_mem _ ho)) h⟩
end
def WR(ro:Option Nat)(P:Program)(n:Sz)(c:Code)(Q:cT)(L:Env)(R:List RO)(O:List Own):Prop:=
 ∀a w,Fr n L a->Sat R O w->c.wpIn (fw ro) 0 P (lift n Q) a w
def WY(P:Program)(n:Sz)(ops:Array Oper)(Q:cT)(rest:List Oper)(L:Env)(R:List RO)(O:List Own):Prop:=
 ∀a w,Fr n L a->Sat R O w->wpListIn (fw none) 0 P ops (lift n Q) rest a w
theorem uT{n:Sz}{Q:cT}: ¬LetsOut (lift n Q):=λ⟨_,_,h⟩=>h
section
variable{P:Program}{ro:Option Nat}{n:Sz}{ops:Array Oper}{Q:cT}{rest:List Oper}{o:Oper}{L:Env}{R:List RO}{O O':List Own}
theorem WR.region{id:Nat}{l:List Oper}(h:WL P n l.toArray Q l L R O)(hd:pV l=true:=by kernel_rfl):WR ro P n (.region id l.toArray false) Q L R O:=
 λa w hf hs=>wpIn_region_lit (qS uT l a w (λo ho=>kG hd ho) (h a w hf hs))
theorem jg{id:Nat}{l:List Oper}(h:WY P n l.toArray Q l L R O):WR none P n (.region id l.toArray false) Q L R O:=
 λa w hf hs=>wpIn_region_lit (h a w hf hs)
theorem WR.drawn{id:Nat}{l:List Oper}(T:List Own)(m:Nat)(hlen:l.length=m)(hm:P.follows .mixedOrders=true)(h:WD P n l.toArray Q R T m (Array.replicate m false) L R O)(hd:pV l=true:=by kernel_rfl):WR ro P n (.region id l.toArray true) Q L R O:=by
 subst hlen
 intro a w hf hs
 exact wpIn_region_any hm (qd (λo ho=>kG hd (by simpa using ho)) uT _ _ _ _ (wpAny_of_held _ _ _ _ (h a _ hf (hs.drew _))))
theorem WR.mL{id:Nat}{l:List Oper}(m:Nat)(hlen:l.length=m)(hm:P.follows .mixedOrders=true)(h:WD P n l.toArray Q R O m (Array.replicate m false) L R O)(hd:pV l=true:=by kernel_rfl):WR ro P n (.region id l.toArray true) Q L R O:=WR.drawn O m hlen hm h hd
theorem WY.nil(h:Q .normal L R O):WY P n ops Q [] L R O:=λ_ _ hf hs=>wpListIn_nil (fK h hf hs)
theorem WY.op(hg:o.guard=none)(h:OpW P n o L R O (λL' R' O'=>WY P n ops Q rest L' R' O'))(hd:pV [o]=true:=by kernel_rfl):WY P n ops Q (o::rest) L R O:=by
 intro a w hf hs
 refine wpListIn_plain hg λK hK=>zW (kG hd List.mem_cons_self) ?_
 exact Oper.wp_mono (λa' w' ⟨L',R',O',hk,hf',hs'⟩=>hK _ _ (hk a' w' hf' hs')) (h a w hf hs _)
theorem WY.rd{v:Value}{d:Nat}(hg:o.guard=none)(hd:o.dst=some d)(hn:Nat.blt d n.n=true)(h:Rd P o L R O v)(k:WY P n ops Q rest ((d,v)::L) R O)(hdf:pV [o]=true:=by kernel_rfl):WY P n ops Q (o::rest) L R O:=
 WY.op hg (OpW.rd hd hn h k) hdf
theorem WY.say(t:Nat){v u:Value}(ht:Env.find L t=some v)(e:v=u)(k:WY P n ops Q rest ((t,u)::L) R O):WY P n ops Q rest L R O:=
 λa w hf hs=>k a w (hf.known ht e) hs
theorem WY.heap{R':List RO}{O':List Own}(hs: ∀w,Sat R O w->Sat R' O' w)(k:WY P n ops Q rest L R' O'):WY P n ops Q rest L R O:=λa w hf h=>k a w hf (hs w h)
def cx(ro:Option Nat)(P:Program)(n:Sz)(y:Code)(Q:cT):cT
 | .normal,L,R,O=>WR ro P n y Q L R O
 |e,L,R,O=>Q e L R O
theorem cx.normal{y:Code}(h:WR ro P n y Q L R O):cx ro P n y Q .normal L R O:=h
theorem cx.exit{y:Code}{id:Nat}(h:Q (.exit id) L R O):cx ro P n y Q (.exit id) L R O:=h
theorem WR.seq{x y:Code}(h:WR ro P n x (cx ro P n y Q) L R O):WR ro P n (.seq x y) Q L R O:=by
 intro a w hf hs
 refine wpIn_seq (wpIn_mono (h a w hf hs) λe a' w' hq=>?_)
 cases e with
 |normal=>obtain⟨L',R',O',hk,hf',hs'⟩:=hq;exact hk a' w' hf' hs'
 |exit id=>exact hq
 |goto l=>exact hq
 |ret=>exact hq
 |panic c=>exact hq
 |outgrown=>exact hq
theorem WR.skip(h:Q .normal L R O):WR ro P n .skip Q L R O:=λ_ _ hf hs=>wpIn_skip (fK h hf hs)
theorem WR.exit{id:Nat}(h:Q (.exit id) L R O):WR ro P n (.exit id) Q L R O:=λ_ _ hf hs=>wpIn_exit ⟨_,_,_,h,hf,hs⟩
theorem WR.Cb{O':List Own}(hF:kV n.ds O O')(h:Q .ret L R O'):WR ro P n .ret Q L R O:=λ_ _ hf hs=>wpIn_ret ⟨_,_,_,h,hf.own,by rw[hf.defers];exact hF.fin hs⟩
theorem WR.ret(h:Q .ret L R O)(hF:kV n.ds O O:=by exact kV.nil):WR ro P n .ret Q L R O:=WR.Cb hF h
theorem WR.block{id:Nat}{c:Code}(h:WR ro P n c (aH id Q) L R O):WR ro P n (.block id c) Q L R O:=by
 intro a w hf hs
 refine wpIn_block (wpIn_mono (h a w hf hs) λe a' w' hq=>?_)
 cases e with
 |normal=>exact hq
 |exit id'=>
  obtain⟨L',R',O',hk,hf',hs'⟩:=hq
  by_cases e:id'=id
  ·subst e
   simp only[aH,Nat.beq_refl] at hk
   simp only[Exit.inBlock,if_true]
   exact⟨_,_,_,hk,hf',hs'⟩
  ·simp only[aH,show Nat.beq id' id=false from by rw[←Bool.not_eq_true,Nat.beq_eq];exact e] at hk
   simp only[Exit.inBlock,e,if_false]
   exact⟨_,_,_,hk,hf',hs'⟩
 |goto l=>exact hq
 |ret=>exact hq
 |panic c=>exact hq
 |outgrown=>exact hq
theorem WR.cond{c:Operand}{x y:Code}{b:Bool}(hc:ev L c=some (.bool b))(ht:b=true->WR ro P n x Q L R O)(hf:b=false->WR ro P n y Q L R O):WR ro P n (.cond c x y) Q L R O:=by
 intro a w hfr hs
 exact wpIn_cond_split (hfr.ev hc) (λh=>ht h a w hfr hs) (λh=>hf h a w hfr hs)
theorem WR.ite{c:Operand}{x y:Code}{p:Prop} [Decidable p] (hc:ev L c=some (.bool (decide p)))(ht:p->WR ro P n x Q L R O)(hf: ¬p->WR ro P n y Q L R O):WR ro P n (.cond c x y) Q L R O:=
 WR.cond hc (λh=>ht (of_decide_eq_true h)) (λh=>hf (of_decide_eq_false h))
theorem WR.yes{c:Operand}{x y:Code}(hc:ev L c=some (.bool true))(ht:WR ro P n x Q L R O):WR ro P n (.cond c x y) Q L R O:=
 WR.cond hc (λ_=>ht) (λh=>by cases h)
theorem WR.no{c:Operand}{x y:Code}(hc:ev L c=some (.bool false))(hf:WR ro P n y Q L R O):WR ro P n (.cond c x y) Q L R O:=
 WR.cond hc (λh=>by cases h) (λ_=>hf)
theorem WR.frame{c:Code}{L':Env}(hs:Sub L' L)(k:WR ro P n c Q L' R O):WR ro P n c Q L R O:=λa w hf h=>k a w (hf.sub hs) h
theorem WR.pick{c:Code}(ks:List Nat){L':Env}(hp:yS L ks L')(k:WR ro P n c Q L' R O):WR ro P n c Q L R O:=WR.frame hp.sub k
theorem WR.heap{c:Code}{R':List RO}{O':List Own}(hs: ∀w,Sat R O w->Sat R' O' w)(k:WR ro P n c Q L R' O'):WR ro P n c Q L R O:=λa w hf h=>k a w hf (hs w h)
theorem WR.loop{c:Code}{α:Type}(LF:α->Env)(RF:α->List RO)(OF:α->List Own)(I:α->Prop)(μ:α->Nat)(x0:α)(h0:I x0)(hL:Sub (LF x0) L)(hS: ∀w,Sat R O w->Sat (RF x0) (OF x0) w)
 (round: ∀x,I x->WR ro P n c (qm LF RF OF I μ (μ x) Q) (LF x) (RF x) (OF x)):WR ro P n (.loop c) Q L R O:=by
 intro a0 w0 hf0 hs0
 have hst: ∀a w,(∃x,I x/\Fr n (LF x) a/\Sat (RF x) (OF x) w)-> ∃x,(I x/\Fr n (LF x) a/\Sat (RF x) (OF x) w)/\ ∀y,I y->Fr n (LF y) a->Sat (RF y) (OF y) w->μ x<=μ y:=λa w ⟨x,hx⟩=>by
  have: ∀m x,μ x<=m->(I x/\Fr n (LF x) a/\Sat (RF x) (OF x) w)-> ∃x,(I x/\Fr n (LF x) a/\Sat (RF x) (OF x) w)/\ ∀y,I y->Fr n (LF y) a->Sat (RF y) (OF y) w->μ x<=μ y:=by
   intro m
   induction m with
   |zero=>exact λx hm hx=>⟨x,hx,λy _ _ _=>by omega⟩
   |succ m ih=>
    intro x hm hx
    by_cases h: ∃y,(I y/\Fr n (LF y) a/\Sat (RF y) (OF y) w)/\μ y<=m
    ·obtain⟨y,hy,hl⟩:=h;exact ih y hl hy
    ·exact⟨x,hx,λy h1 h2 h3=>Nat.le_of_not_lt λhlt=>h ⟨y,⟨h1,h2,h3⟩,by omega⟩⟩
  exact this _ x (Nat.le_refl _) hx
 haveI: ∀(a:Act) (w:World),Decidable (∃x,I x/\Fr n (LF x) a/\Sat (RF x) (OF x) w):=λ_ _=>Classical.propDecidable _
 let M:Act->World->Nat:=λa w=>if h: ∃x,I x/\Fr n (LF x) a/\Sat (RF x) (OF x) w then μ (hst a w h).choose else 0
 refine wpIn_loop (λa w=> ∃x,I x/\Fr n (LF x) a/\Sat (RF x) (OF x) w) M ⟨x0,h0,hf0.sub hL,hS _ hs0⟩ λa w hI=>?_
 have hM:M a w=μ (hst a w hI).choose:=dif_pos hI
 obtain⟨⟨h1,h2,h3⟩,h4⟩:=(hst a w hI).choose_spec
 refine wpIn_mono (round _ h1 a w h2 h3) λe a' w' hq=>?_
 cases e with
 |normal=>
  obtain⟨L',R',O',⟨y,hy,hlt,hL',hS'⟩,hf',hs'⟩:=hq
  have hJ: ∃x,I x/\Fr n (LF x) a'/\Sat (RF x) (OF x) w':=⟨y,hy,hf'.sub hL',hS' _ hs'⟩
  refine⟨hJ,?_⟩
  have hM':M a' w'=μ (hst a' w' hJ).choose:=dif_pos hJ
  rw[hM,hM']
  exact Nat.lt_of_le_of_lt ((hst a' w' hJ).choose_spec.2 y hy (hf'.sub hL') (hS' _ hs')) hlt
 |exit id=>exact hq
 |goto l=>exact hq
 |ret=>exact hq
 |panic c=>exact hq
 |outgrown=>exact hq
section
variable{c:Code}{α β γ:Type}
theorem WR.lx(m:Nat)(ch:α->Env)(I:α->Prop)(μ:α->Nat)(x0:α){pre Lc:Env}(_hs:Split m L pre Lc)(h0:I x0)(hL:Sub (ch x0++Lc) L)(hS: ∀w,Sat R O w->Sat R O w)
 (round: ∀x,I x->WR ro P n c (bq ch Lc (λ_=>R) (λ_=>O) I μ (μ x) Q) (ch x++Lc) R O):WR ro P n (.loop c) Q L R O:=
 WR.loop (α:=α) (λq=>ch q++Lc) (λ_=>R) (λ_=>O) I μ x0 h0 hL hS (λq hq=>round q hq)
theorem WR.iJ(m:Nat)(ch:α->Env)(OF:α->List Own)(I:α->Prop)(μ:α->Nat)(x0:α){pre Lc:Env}(_hs:Split m L pre Lc)(h0:I x0)(hL:Sub (ch x0++Lc) L)(hS: ∀w,Sat R O w->Sat R (OF x0) w)
 (round: ∀x,I x->WR ro P n c (bq ch Lc (λ_=>R) OF I μ (μ x) Q) (ch x++Lc) R (OF x)):WR ro P n (.loop c) Q L R O:=
 WR.loop (α:=α) (λq=>ch q++Lc) (λ_=>R) OF I μ x0 h0 hL hS (λq hq=>round q hq)
theorem WR.ia(m:Nat)(ch:α->β->Env)(OF:α->β->List Own)(I:α->β->Prop)(μ:α->β->Nat)(x0:α)(y0:β){pre Lc:Env}(_hs:Split m L pre Lc)(h0:I x0 y0)(hL:Sub (ch x0 y0++Lc) L)(hS: ∀w,Sat R O w->Sat R (OF x0 y0) w)
 (round: ∀x y,I x y->WR ro P n c (bC ch Lc (λ_ _=>R) OF I μ (μ x y) Q) (ch x y++Lc) R (OF x y)):WR ro P n (.loop c) Q L R O:=
 WR.loop (α:=α×β) (λq=>ch q.1 q.2++Lc) (λ_=>R) (λq=>OF q.1 q.2) (λq=>I q.1 q.2) (λq=>μ q.1 q.2) (x0,y0) h0 hL hS (λq hq=>round q.1 q.2 hq)
end
theorem mU{f:FuncId}{fn:Func}{n:Nat}{c:Code}{l:List Value}{post:Value->List RO->List Own->Prop}(hf:P.funcs[f]? =some fn)(hb:fn.body=some c)(hn:fn.ntmps=n)(hl:Nat.ble l.length n=true){L0:Env}(hL:oB l 0=L0)
 (h:WR none P ⟨n,[]⟩ c (sG P fn ⟨n,[]⟩ post) L0 R O):Fun P f l.toArray R O post:=by
 intro w hs
 refine mv.1 (callsIn_of_wp_marks (F:=fw none) (n:=0) hf hb trivial ?_)
 have hl':l.length<=n:=Nat.le_of_ble_eq_true hl
 refine wpIn_mono (h _ w ⟨?_,rfl,?_⟩ hs) λe a' w' hq=>?_
 ·simp[hn];omega
 ·intro t v ht
  rw[←hL] at ht
  obtain⟨_,h2⟩:=qD ht
  simp only[Nat.sub_zero] at h2
  have hlt:t<l.length:=(List.getElem?_eq_some_iff.1 h2).1
  simp only[Array.getD_eq_getD_getElem?]
  rw[Array.getElem?_append_left (by simpa using hlt)]
  simp[h2]
 ·cases e with
  |normal=>obtain⟨L',R',O',⟨v,hr,hp⟩,hf',hs'⟩:=hq;exact Fin.leaves (f:=f) hr hp hf'.own (by rw[hf'.defers];exact hs')
  |ret=>obtain⟨L',R',O',⟨v,hr,hp⟩,hf',hs'⟩:=hq;exact Fin.leaves (f:=f) hr hp hf' hs'
  |exit id=>obtain⟨L',R',O',hk,_⟩:=hq;exact hk.elim
  |goto l=>obtain⟨L',R',O',hk,_⟩:=hq;exact hk.elim
  |panic c=>exact hq.elim
  |outgrown=>exact hq.elim
def Yld(P:Program)(l:Nat)(args:List Value)(R:List RO)(O:List Own)(K:Bool->List RO->List Own->Prop):Prop:=
 ∀w,Sat R O w->YieldAt (fw none) 0 P l args.toArray w λe w'=> ∃b R' O',e= .returned (.bool b)/\K b R' O'/\Sat R' O' w'
theorem WY.yield{l:Nat}{x:Operand}{xs:List Operand}{azs:List Value}{ts:Array TypeId}{d:Nat}(hg:o.guard=none)(ho:o.op= .call {callee:=.value x,args:=xs.toArray,argTypes:=ts})
 (hx:ev L x=some (.func (.yield l) #[] #[])) (has:Evs L xs azs) (hd:o.dst=some d) (hn:Nat.blt d n.n=true)
 (h:Yld P l azs R O (λb R' O'=>WY P n ops Q rest ((d,.bool b)::L) R' O')):WY P n ops Q (o::rest) L R O:=by
 intro a w hf hs
 refine wpListIn_plain hg λK hK=>⟨λ_ _=>trivial,?_⟩
 have e1:a.eval x=_:=hf.ev hx
 have e2:=has.eval (ρ:=a.eval) (λx u hx=>hf.ev hx)
 obtain⟨fn,tmps,assign,body,hy,hR⟩:=h w hs
 have hr:(execOp a.eval o).run P w= .ok (.round l fn tmps assign body) w:=by
  simp only[execOp,ho,resolve,e1,Deferred.ofValue,List.map_toArray,e2,Sem.run_bind,Sem.run_pure,Result.andThen_ok,invoke]
  simpa using hy
 show o.uponIn _ _ _ _ _ _ ((o.semAt none a.eval).run P w)
 rw[Oper.semAt_none,hr,Oper.uponIn_round]
 refine⟨λhx=>Bool.noConfusion hx,hR.mono λe w' hq=>?_⟩
 obtain⟨b,R',O',he,hk,hs'⟩:=hq
 subst he
 rw[hd]
 exact hK _ _ (hk _ _ (hf.put hn _) hs')
def recC(l:Nat)(n:Sz)(L:Env)(D:Nat)(st:LoopState)(pe:Option Code)(ps:Array Tmp)(assign body:Code):Own:=
 ⟨[l],λw=> ∃f tmps,w.heap[l]? =some (.loop {state:=st,pending:=pe,fn:=f,tmps,params:=ps,assign,body,defers:=D})/\Fr ⟨n.n,[]⟩ L {tmps:=tmps,defers:=[]}⟩
def fi:List Nat->List Value->Env->Env
 |p::ps,v::vs,L=>fi ps vs ((p,v)::L)
 |_,_,L=>L
theorem Fr.params: ∀(ps:List Nat) (vs:List Value) {L:Env} {m:Nat} {tmps:Array Value},ps.all (λp=>Nat.blt p m)=true->Fr ⟨m,[]⟩ L {tmps:=tmps,defers:=[]}->
 Fr ⟨m,[]⟩ (fi ps vs L) {tmps:=(ps.zip vs).foldl (λt (p,v)=>t.setIfInBounds p v) tmps,defers:=[]}
 | [],_,_,_,_,_,h=>by simpa [fi] using h
 |_::_,[],_,_,_,_,h=>by simpa [fi] using h
 |p::ps,v::vs,L,m,tmps,hp,h=>by
  simp only[List.all_cons,Bool.and_eq_true] at hp
  simp only[List.zip_cons_cons,List.foldl_cons,fi]
  exact Fr.params ps vs hp.2 (h.put hp.1 v)
theorem Sat.gJ{l:Nat}{n:Sz}{L:Env}{D:Nat}{st st':LoopState}{pe pe':Option Code}{ps:Array Tmp}{assign body:Code}{w:World}{f:FuncId}{tmps:Array Value}
 (h:Sat R (recC l n L D st pe ps assign body::O) w) (hf:Fr ⟨n.n,[]⟩ L {tmps:=tmps,defers:=[]}):
 Sat R (recC l n L D st' pe' ps assign body::O) (w.putObj l (.loop {state:=st',pending:=pe',fn:=f,tmps,params:=ps,assign,body,defers:=D})):=by
 have hlt:l<w.heap.size:=h.lt l (by simp[owned,recC])
 refine h.update _ ⟨rfl,rfl,rfl,by simp[World.putObj],λk _ hn=>World.putObj_heap_other (λe=>hn (by rw[e];exact List.mem_singleton.2 rfl))⟩
  (λk hk=>.inl hk) (λk hk=>by rw[List.mem_singleton.1 hk];simpa [World.putObj] using hlt) (by simp[recC]) (λw2 ha _=>⟨f,tmps,?_,hf⟩)
 rw[ha.2.2.2.2 l (by simpa [World.putObj] using hlt) (λhn=>hn (by simp[recC]))]
 exact World.putObj_heap_same hlt
def nW(l:Nat)(n:Sz)(L:Env)(D:Nat)(ps:Array Tmp)(assign body:Code)(K:Bool->List RO->List Own->Prop):cT
 | .normal,_,R,O=> ∃O2,Take (recC l n L D .busy none ps assign body) O O2/\K true R (recC l n L D .ready none ps assign body::O2)
 | .ret,_,R,O=> ∃O2,Take (recC l n L D .busy none ps assign body) O O2/\K false R (recC l n L D .done (some .ret) ps assign body::O2)
 |_,_,_,_=>False
def mK(l:Nat)(P:Program)(n:Sz)(L:Env)(D:Nat)(ps:Array Tmp)(assign body:Code)(K:Bool->List RO->List Own->Prop):cT
 | .normal,L',R,O=> ∃O2,Take (recC l n L D .ready none ps assign body) O O2/\WR (some l) P ⟨n.n,[]⟩ body (nW l n L D ps assign body K) L' R (recC l n L D .busy none ps assign body::O2)
 |_,_,_,_=>False
theorem mK.mk{l:Nat}{Lr L':Env}{D:Nat}{ps:Array Tmp}{assign body:Code}{K:Bool->List RO->List Own->Prop}{O2:List Own}(hT:Take (recC l n Lr D .ready none ps assign body) O O2)
 (h:WR (some l) P ⟨n.n,[]⟩ body (nW l n Lr D ps assign body K) L' R (recC l n Lr D .busy none ps assign body::O2)):mK l P n Lr D ps assign body K .normal L' R O:=⟨O2,hT,h⟩
theorem nW.on{l:Nat}{Lr L':Env}{D:Nat}{ps:Array Tmp}{assign body:Code}{K:Bool->List RO->List Own->Prop}{O2:List Own}(hT:Take (recC l n Lr D .busy none ps assign body) O O2)
 (h:K true R (recC l n Lr D .ready none ps assign body::O2)):nW l n Lr D ps assign body K .normal L' R O:=⟨O2,hT,h⟩
theorem xV{R:List RO}{w:World}: ∀{X O:List Own},Sat R (X++O) w->Sat R O w
 | [],_,h=>h
 |_::X,_,h=>xV (X:=X) h.drop
theorem Yld.round{l:Nat}{Lr:Env}{D:Nat}{ps:List Nat}{assign body:Code}{args:List Value}{K:Bool->List RO->List Own->Prop}{L0:Env}
 (hT:Take (recC l n Lr D .ready none ps.toArray assign body) O O') (hsz:args.length=ps.length) (hps:ps.all (λp=>Nat.blt p n.n)=true) (hL0:fi ps args Lr=L0)
 (h:WR (some l) P ⟨n.n,[]⟩ assign (mK l P n Lr D ps.toArray assign body K) L0 R (recC l n Lr D .ready none ps.toArray assign body::O')):Yld P l args R O K:=by
 intro w hs
 have hs1:=hs.perm hT.perm
 obtain⟨f,tmps,hl,hf⟩:=hs1.see List.mem_cons_self
 have hy:=run_yield (P:=P) (args:=args.toArray) hl (by simpa using hsz)
 refine⟨f,_,assign,body,hy,?_⟩
 refine roundIn_of_wpIn trivial ?_
 have hzip:(ps.toArray.zip args.toArray).foldl (λt (p,v)=>t.setIfInBounds p v) tmps=(ps.zip args).foldl (λt (p,v)=>t.setIfInBounds p v) tmps:=by
  rw[←Array.foldl_toList];simp
 have hf0:Fr ⟨n.n,[]⟩ L0 {tmps:=(ps.toArray.zip args.toArray).foldl (λt (p,v)=>t.setIfInBounds p v) tmps,defers:=[]}:=by
  rw[hzip,←hL0];exact Fr.params ps args hps hf
 refine wpIn_mono (h _ w hf0 hs1) λe a1 w1 hq=>?_
 cases e with
 |normal=>
  obtain⟨L1,R1,O1,⟨O2,hT1,hb⟩,hf1,hs1⟩:=hq
  have hs2:=hs1.perm hT1.perm
  obtain⟨f1,tmps1,hl1,hfr1⟩:=hs2.see List.mem_cons_self
  refine⟨_,run_beginRound hl1 rfl,?_⟩
  refine wpIn_mono (hb a1 _ hf1 (hs2.gJ hfr1)) λe a2 w2 hq=>?_
  cases e with
  |normal=>
   obtain⟨L2,R2,O3,⟨O4,hT2,hk⟩,_,hs3⟩:=hq
   have hs4:=hs3.perm hT2.perm
   obtain⟨f2,tmps2,hl2,hfr2⟩:=hs4.see List.mem_cons_self
   exact⟨_,_,run_endRound none hl2,true,_,_,rfl,hk,hs4.gJ hfr2⟩
  |ret=>
   obtain⟨L2,R2,O3,⟨O4,hT2,hk⟩,hfr,hfin⟩:=hq
   obtain⟨X,hs3⟩:=hfin.sat
   have hs4:=(xV hs3).perm hT2.perm
   obtain⟨f2,tmps2,hl2,hfr2⟩:=hs4.see List.mem_cons_self
   exact⟨_,_,run_endRound (some .ret) hl2,false,_,_,rfl,hk,hs4.gJ hfr2⟩
  |exit id=>obtain⟨_,_,_,hk,_⟩:=hq;exact hk.elim
  |goto t=>obtain⟨_,_,_,hk,_⟩:=hq;exact hk.elim
  |panic c=>exact hq.elim
  |outgrown=>exact hq.elim
 |ret=>obtain⟨_,_,_,hk,_⟩:=hq;exact hk.elim
 |exit id=>obtain⟨_,_,_,hk,_⟩:=hq;exact hk.elim
 |goto t=>obtain⟨_,_,_,hk,_⟩:=hq;exact hk.elim
 |panic c=>exact hq.elim
 |outgrown=>exact hq.elim
theorem Yld.mono{l:Nat}{args:List Value}{K K':Bool->List RO->List Own->Prop}(h:Yld P l args R O K)(hk: ∀b R O,K b R O->K' b R O):Yld P l args R O K':=λw hs=>by
 obtain⟨fn,tmps,assign,body,hy,hR⟩:=h w hs
 exact⟨fn,tmps,assign,body,hy,hR.mono λe w' ⟨b,R',O',he,hK,hs'⟩=>⟨b,R',O',he,hk _ _ _ hK,hs'⟩⟩
theorem Yld.heap{l:Nat}{args:List Value}{K:Bool->List RO->List Own->Prop}{R':List RO}(hs: ∀w,Sat R O w->Sat R' O' w)(h:Yld P l args R' O' K):Yld P l args R O K:=λw h0=>h w (hs w h0)
def iD(Q:cT):cT
 | .ret,L,R,O=>Q .ret L R O
 |_,_,_,_=>False
theorem iD.mk{Q:cT}(h:Q .ret L R O):iD Q .ret L R O:=h
abbrev iZ(D:Nat):List Deferred:=[{target:=.collected D,args:=#[]}]
def iy(P:Program)(n:Sz)(g:Operand)(ps:List Nat)(assign body y:Code)(Q:cT)(L:Env)(R:List RO)(O:List Own):Prop:=
 ∃gf lb,ev L g=some (.func (.func gf) #[] (List.toArray lb))/\cZ P gf=true/\
  ∀l D,Fun P gf (.func (.yield l) #[] #[]::lb).toArray R (recC l n L D .ready none ps.toArray assign body::dfC D::O) (λ_ R' O'=> ∃O2,Take (recC l n L D .ready none ps.toArray assign body) O' O2/\WC P ⟨n.n,iZ D++n.ds⟩ y (iD Q) L R' O2)
theorem iy.mk{g:Operand}{ps:List Nat}{assign body y:Code}{gf:Nat}{lb:List Value}(hg:ev L g=some (.func (.func gf) #[] lb.toArray))(hb:cZ P gf=true)
 (h: ∀l D,Fun P gf (.func (.yield l) #[] #[]::lb).toArray R (recC l n L D .ready none ps.toArray assign body::dfC D::O) (λ_ R' O'=> ∃O2,Take (recC l n L D .ready none ps.toArray assign body) O' O2/\WC P ⟨n.n,iZ D++n.ds⟩ y (iD Q) L R' O2)):
 iy P n g ps assign body y Q L R O:=⟨gf,lb,hg,hb,h⟩
theorem iy.core{g:Operand}{ps:List Nat}{assign body y:Code}{id:Nat}{a:Act}{w:World}(hr:iy P n g ps assign body y Q L R O)(hf:Fr n L a)(hs:Sat R O w):
 (Code.block id (.rangeFunc g ps.toArray assign body)).wpIn Fence.wide 0 P (Exit.then (y.wpIn Fence.wide 0 P (lift n Q)) (lift n Q)) a w:=by
 obtain⟨gf,lb,hg,hb,h⟩:=hr
 refine wpIn_block ?_
 refine wpIn_rangeFunc λfn _=>?_
 have hsD:Sat R (dfC w.heap.size::O) (w.alloc (.deferred (some []))):=hs.alloc _ _ rfl (λw' h _=>h)
 have hsz:(w.alloc (.deferred (some []))).heap.size=w.heap.size+1:=by simp
 have hfr:Fr ⟨n.n,[]⟩ L {tmps:=a.tmps,defers:=[]}:=⟨hf.size,rfl,λt v ht=>hf.get t v ht⟩
 have hsL:Sat R (recC (w.heap.size+1) n L w.heap.size .ready none ps.toArray assign body::dfC w.heap.size::O) ((w.alloc (.deferred (some []))).alloc (.loop {state:=.ready,pending:=none,fn,tmps:=a.tmps,params:=ps.toArray,assign,body,defers:=w.heap.size})):=
  hsD.alloc _ _ (by rw[hsz];rfl) (λw' h _=>⟨fn,a.tmps,by rw[hsz] at h;exact h,hfr⟩)
 have e1:a.eval g=_:=hf.ev hg
 have hc:=h (w.heap.size+1) w.heap.size _ hsL
 obtain⟨W1,hW1⟩: ∃W1,(w.alloc (.deferred (some []))).alloc (.loop {state:=.ready,pending:=none,fn,tmps:=a.tmps,params:=ps.toArray,assign,body,defers:=w.heap.size})=W1:=⟨_,rfl⟩
 rw[hW1] at hc
 refine⟨w.heap.size+1,iZ w.heap.size,W1,{target:=.fn (.func gf) lb.toArray,args:=#[.func (.yield (w.heap.size+1)) #[] #[]]},W1,gf,(.func (.yield (w.heap.size+1)) #[] #[]::lb).toArray,W1,
  hW1▸run_enterLoop_outer fn a.tmps ps.toArray assign body,?_,λ_ _=>trivial,?_,λhx=>Bool.noConfusion hx,(callsIn_wide (n:=0)).2 (hc.mono ?_)⟩
 ·simp only[resolve,e1]
  simp[go_sem,Deferred.ofValue]
 ·simp[invoke,go_sem,di hb]
 ·rintro e w2 ⟨v,R',O',rfl,⟨O2,hT,hy⟩,hs2⟩
  have hs3:=hs2.perm hT.perm
  obtain⟨f2,tmps2,hl2,hfr2⟩:=hs3.see List.mem_cons_self
  refine⟨none,_,run_endLoop hl2 (by simp),?_⟩
  have hs4:=(hs3.gJ (st':=.exhausted) (pe':=none) (f:=f2) hfr2).drop
  have hf2:Fr ⟨n.n,iZ w.heap.size++n.ds⟩ L {a with defers:=iZ w.heap.size++a.defers}:=⟨hf.size,by show _++a.defers=_;rw[hf.defers],λt v ht=>hf.get t v ht⟩
  have hy':=hy _ _ hf2 hs4
  show Code.wpIn Fence.wide 0 P y (lift n Q) _ _
  refine wpIn_wide.2 (wp_mono hy' λe a' w' hq=>?_)
  cases e with
  |ret=>obtain⟨L',R',O',h1,h2,h3⟩:=hq;exact⟨L',R',O',h1,h2,h3⟩
  |normal=>obtain⟨_,_,_,hk,_⟩:=hq;exact hk.elim
  |exit id=>obtain⟨_,_,_,hk,_⟩:=hq;exact hk.elim
  |goto t=>obtain⟨_,_,_,hk,_⟩:=hq;exact hk.elim
  |panic c=>exact hq.elim
  |outgrown=>exact hq.elim
def pD(P:Program)(n:Sz)(g:Operand)(ps:List Nat)(assign body y:Code)(Q:cT):cT
 | .normal,L,R,O=>iy P n g ps assign body y Q L R O
 |e,L,R,O=>Q e L R O
theorem pD.normal{g:Operand}{ps:List Nat}{assign body y:Code}(h:iy P n g ps assign body y Q L R O):pD P n g ps assign body y Q .normal L R O:=h
theorem WC.pK{g:Operand}{ps:List Nat}{assign body x y:Code}{id:Nat}(h:WC P n x (pD P n g ps assign body y Q) L R O):
 WC P n (.seq (.seq x (.block id (.rangeFunc g ps.toArray assign body))) y) Q L R O:=by
 intro a w hf hs
 refine wpIn_wide.1 (wpIn_seq (F:=Fence.wide) (n:=0) (wpIn_seq (wpIn_wide.2 (wp_mono (h a w hf hs) λe a' w' hq=>?_))))
 cases e with
 |normal=>obtain⟨L',R',O',hk,hf',hs'⟩:=hq;exact iy.core hk hf' hs'
 |exit id=>exact hq
 |goto l=>exact hq
 |ret=>exact hq
 |panic c=>exact hq
 |outgrown=>exact hq
end
end Go.SL
namespace Go.SL
open Go Go.RowKit Go.MapKept Go.ChangeMaps
def fe(it b c:Nat)(seen:List Nat):Own:={il:=[it],pred:=λw=>w.heap[it]? =some (.mapIter (some b) c seen.toArray c)}
section
variable{κ β:Type}{kenc:κ->Value}{venc:β->Value}
def DM(kenc:κ->Value)(venc:β->Value):Option (κ×β×Nat)->Value
 |none=>.tuple #[.bool false]
 |some x=>.tuple #[.bool true,kenc x.1,venc x.2.1]
def JX(m:aO κ β)(seen:List Nat):Option (κ×β×Nat)->Prop
 |none=> ∀x∈m.l,x.2.2∈seen
 |some x=>x∈m.l/\x.2.2∉seen
def JS(seen:List Nat):Option (κ×β×Nat)->List Nat
 |none=>seen
 |some x=>seen++[x.2.2]
variable{P:Program}{n:Sz}{o:Oper}{L:Env}{R:List RO}{O O':List Own}{K:Env->List RO->List Own->Prop}{t kt et:TypeId}{z:Value}{x y:Operand}{m:aO κ β}{b d it:Nat}{seen seen1:List Nat}
theorem Du(T:ku P t kt et z)(ho:o.op= .range t x)(hx:ev L x=some (.map (some b)))(hp:iu kenc venc b m∈R)(hd:o.dst=some d)(hn:Nat.blt d n.n=true)
 (k: ∀it,K ((d,.pointer (some ⟨it,0,none⟩))::L) R (fe it b m.clock []::O)):OpW P n o L R O K:=by
 intro a w hf hs Q
 have h:iu kenc venc b m w:=hs.read hp
 unfold Oper.wp
 have hr:(execOp a.eval o).run P w= .ok (.value (.pointer (some ⟨w.heap.size,0,none⟩))) (w.alloc (.mapIter (some b) m.clock #[] m.clock)):=by
  simp only[execOp,ho,Sem.run_bind,hf.ev hx,run_range_map w t kt et b _ _ T.und h,Result.andThen_ok,Sem.run_pure]
 rw[hr,Oper.upon_value,hd]
 exact⟨_,_,_,k _,hf.put hn _,hs.alloc _ _ rfl λw' h _=>h⟩
theorem tq(m:aO κ β):(m.l.map (ent kenc venc)).map (·.born)=m.l.map (·.2.2):=by
 rw[List.map_map];rfl
theorem Hi(ho:o.op= .next x false)(hx:ev L x=some (.pointer (some ⟨it,0,none⟩)))(hp:iu kenc venc b m∈R)(hT:Take (fe it b m.clock seen) O O')(hd:o.dst=some d)(hn:Nat.blt d n.n=true)
 (k: ∀r,JX m seen r->K ((d,DM kenc venc r)::L) R (fe it b m.clock (JS seen r)::O')):OpW P n o L R O K:=by
 intro a w hf hs Q
 have h:iu kenc venc b m w:=hs.read hp
 have hs':=hs.perm hT.perm
 have hi:w.heap[it]? =some (.mapIter (some b) m.clock seen.toArray m.clock):=hs'.see List.mem_cons_self
 unfold Oper.wp
 rcases run_next_at (P:=P) w o.type it b m.clock m.clock seen.toArray _ _ hi h (by
  intro e he
  simp only[List.mem_map] at he
  obtain⟨q,hq,rfl⟩:=he
  exact m.lt q hq) (Nat.le_refl _) with⟨h0,hr⟩|⟨e,he,w1,hw1,hr⟩
 ·have hr':(execOp a.eval o).run P w= .ok (.value (.tuple #[.bool false])) w:=by
   simp only[execOp,ho,Sem.run_bind,hf.ev hx,hr,Result.andThen_ok,Sem.run_pure]
  rw[hr',Oper.upon_value,hd]
  refine⟨_,_,_,k none ?_,hf.put hn _,hs'⟩
  intro q hq
  have h1:leftOf (m.l.map (ent kenc venc)).toArray seen.toArray=#[]:=Array.eq_empty_of_size_eq_zero h0
  unfold leftOf at h1
  rw[Array.filter_eq_empty_iff] at h1
  have:=h1 (ent kenc venc q) (by simpa using⟨q.1,q.2.1,q.2.2,hq,rfl⟩)
  simpa [ent] using this
 ·have hr':(execOp a.eval o).run P w= .ok (.value (.tuple #[.bool true,e.key,e.val])) (setBlock w1 it (.mapIter (some b) m.clock (seen.toArray.push e.born) m.clock)):=by
   simp only[execOp,ho,Sem.run_bind,hf.ev hx,hr,Result.andThen_ok,Sem.run_pure]
  rw[hr',Oper.upon_value,hd]
  simp only[leftOf,Array.toList_filter,List.mem_filter,List.mem_map] at he
  obtain⟨⟨q,hq,rfl⟩,hns⟩:=he
  have hs1:Sat R (fe it b m.clock seen::O') w1:=by
   rcases hw1 with rfl|rfl
   ·exact hs'
   ·exact hs'.drew _
  have hi1:w1.heap[it]? =some (.mapIter (some b) m.clock seen.toArray m.clock):=hs1.see List.mem_cons_self
  have hlt:it<w1.heap.size:=(Array.getElem?_eq_some_iff.1 hi1).1
  refine⟨_,_,_,k (some q) ⟨hq,by simpa [ent] using hns⟩,hf.put hn _,?_⟩
  refine hs1.update (fe it b m.clock (seen++[q.2.2])) ⟨rfl,rfl,rfl,by simp[setBlock],λj hj hn=>?_⟩ (λj hj=>.inl hj) (λj hj=>?_) (by simp[fe]) (λw'' ha _=>?_)
  ·have:j≠it:=λe=>hn (by simp[fe,e])
   exact(heap_set hi1).2 j this
  ·simp only[fe,List.mem_singleton] at hj;subst hj;simpa [setBlock] using hlt
  ·show w''.heap[it]? =_
   rw[ha.2.2.2.2 it (by simpa [setBlock] using hlt) (λh=>h (by simp[fe]))]
   refine(heap_set hi1).1.trans ?_
   simp[ent]
theorem xW{r:Option (κ×β×Nat)}(ho:o.op= .extract x 0)(hx:ev L x=some (DM kenc venc r)):Rd P o L R O (.bool (decide (r.isSome=true))):=λρ w hρ _ _=>by
 cases r<;>simp[execOp,ho,hρ _ _ hx,DM,Instr.extract]
theorem Hj{q:κ×β×Nat}(ho:o.op= .entry x)(hx:ev L x=some (.pointer (some ⟨it,0,none⟩)))(hp:iu kenc venc b m∈R)(hi:fe it b m.clock seen1∈O)(hq:q∈m.l)(hs:seen1=seen++[q.2.2]):Rd P o L R O (.tuple #[kenc q.1,venc q.2.1]):=λρ w hρ hR hO=>by
 have h:w.heap[b]? =_:=hR _ hp
 have h2:w.heap[it]? =_:=hO _ hi
 subst hs
 have h3:w.heap[it]? =some (.mapIter (some b) m.clock (seen.toArray.push (ent kenc venc q).born) m.clock):=h2.trans (by simp[ent])
 have:=run_entry_at (P:=P) w it b m.clock seen.toArray _ _ (ent kenc venc q) h3 h (by simpa using⟨q.1,q.2.1,q.2.2,hq,rfl⟩) (by
  show((m.l.map (ent kenc venc)).map (·.born)).Nodup
  rw[tq];exact m.born)
 simp only[execOp,ho,Sem.run_bind,hρ _ _ hx,this,Result.andThen_ok,Sem.run_pure]
 rfl
end
theorem lG{α:Type} [DecidableEq α]: ∀{l l':List α},l.Nodup->(∀x∈l,x∈l')->l.length<=l'.length
 | [],_,_,_=>Nat.zero_le _
 |a::l,l',hn,hs=>by
  rw[List.nodup_cons] at hn
  have h1:=lG (l:=l) (l':=l'.erase a) hn.2 λx hx=>(List.mem_erase_of_ne (λe=>hn.1 (by rwa [e] at hx))).2 (hs x (List.mem_cons_of_mem _ hx))
  have ha:=hs a List.mem_cons_self
  rw[List.length_erase_of_mem ha] at h1
  have:=List.length_pos_of_mem ha
  rw[List.length_cons];omega
theorem Ah: ∀(x y:List UInt8),Op.bytesLess x y=decide (x<y)
 | [],[]=>by simp[Op.bytesLess]
 | [],_::_=>by simp[Op.bytesLess]
 |_::_,[]=>by simp[Op.bytesLess]
 |a::x,b::y=>by
  rw[Op.bytesLess,Ah x y]
  simp only[List.cons_lt_cons_iff]
  by_cases h:a<b
  ·simp[h]
  ·by_cases h2:b<a
   ·have h3: ¬a=b:=λe=>by subst e;exact absurd h2 (by simp)
    simp[h,h2,h3]
   ·have h3:a=b:=UInt8.toNat_inj.1 (by simp only[UInt8.lt_iff_toNat_lt] at h h2;omega)
    subst h3
    simp
def Asc(l:List (List UInt8)):Prop:=l.Pairwise λa b=>Op.bytesLess a b=true
abbrev Lt(a b:List UInt8):Prop:=Op.bytesLess a b=true
theorem Lt.iff{a b:List UInt8}:Lt a b↔a<b:=by show Op.bytesLess a b=true↔_;rw[Ah,decide_eq_true_eq]
theorem Lt.irrefl{a:List UInt8}: ¬Lt a a:=λh=>List.lt_irrefl _ (Lt.iff.1 h)
theorem Lt.trans{a b c:List UInt8}(h:Lt a b)(h':Lt b c):Lt a c:=Lt.iff.2 (List.lt_trans (Lt.iff.1 h) (Lt.iff.1 h'))
theorem Lt.asymm{a b:List UInt8}(h:Lt a b)(h':Lt b a):False:=Lt.irrefl (h.trans h')
theorem BI{a b:List UInt8}(h: ¬Lt a b)(hne:a≠b):Lt b a:=by
 rw[Lt.iff] at h⊢
 rcases Classical.em (b<a) with h5|h5
 ·exact h5
 ·exact absurd (List.le_antisymm (List.not_lt.1 h5) (List.not_lt.1 h)) hne
theorem Lt.flip(a b:List UInt8):(Op.bytesLess a b||a==b)=decide (¬Lt b a):=by
 by_cases h:Lt b a
 ·rw[decide_eq_false (by simpa using h)]
  have h1: ¬Lt a b:=λh'=>h'.asymm h
  have h2:a≠b:=λe=>by subst e;exact h.irrefl
  simp[show Op.bytesLess a b=false from Bool.eq_false_iff.2 h1,h2]
 ·rw[decide_eq_true h]
  by_cases e:a=b
  ·simp[e]
  ·rw[show Op.bytesLess a b=true from BI h (λh=>e h.symm)];rfl
section
variable{P:Program}{o:Oper}{L:Env}{R:List RO}{O:List Own}{t t':TypeId}{x y:Operand}{s r:List UInt8}
theorem KI(ho:o.op= .binOp .leq t x y t')(hx:ev L x=some (vs s))(hy:ev L y=some (vs r)):Rd P o L R O (.bool (decide (¬Lt r s))):=by
 have h:=Fl (P:=P) (R:=R) (O:=O) ho hx hy
 rwa [Lt.flip] at h
end
theorem Asc.nodup{l:List (List UInt8)}(h:Asc l):l.Nodup:=List.Pairwise.imp (λh e=>by subst e;exact Lt.irrefl h) h
end Go.SL

namespace Go.SL
open Go Go.RowKit Go.Sort
theorem WR.rR{P:Program}{ro:Option Nat}{n:Sz}{Q:cT}{L:Env}{R:List RO}{O:List Own}{c:Code}{α β γ:Type}(m:Nat)(ch:α->β->γ->Env)(OF:α->β->γ->List Own)(I:α->β->γ->Prop)(μ:α->β->γ->Nat)(x0:α)(y0:β)(z0:γ){pre Lc:Env}(_hs:Split m L pre Lc)(h0:I x0 y0 z0)(hL:Sub (ch x0 y0 z0++Lc) L)(hS: ∀w,Sat R O w->Sat R (OF x0 y0 z0) w)
 (round: ∀x y z,I x y z->WR ro P n c (dN ch Lc (λ_ _ _=>R) OF I μ (μ x y z) Q) (ch x y z++Lc) R (OF x y z)):WR ro P n (.loop c) Q L R O:=
 WR.loop (α:=α×β×γ) (λq=>ch q.1 q.2.1 q.2.2++Lc) (λ_=>R) (λq=>OF q.1 q.2.1 q.2.2) (λq=>I q.1 q.2.1 q.2.2) (λq=>μ q.1 q.2.1 q.2.2) (x0,y0,z0) h0 hL hS (λq hq=>round q.1 q.2.1 q.2.2 hq)
section
variable{R:List RO}{O O':List Own}{e:TypeId}{xs ys:List Int}{b cap:Nat}
theorem CT{w:World}(h:(bt e 1 (SL.one vi) (.slice (some ⟨b,0,none⟩) xs.length cap) xs).pred w):Holds (Value.int .i64) w b 0 xs.toArray:=by
 obtain⟨hl,hv⟩:=h
 rcases hv with⟨h0,_⟩|⟨g,c,cur,hv,_,hg,hn,hc,hs,ht⟩
 ·cases h0
 ·simp only[Value.slice.injEq,Option.some.injEq,Addr.mk.injEq,and_true,true_and] at hv
  obtain⟨rfl,rfl⟩:=hv
  intro j hj
  have hj':j<xs.length:=by simpa using hj
  rw[dG,Nat.mul_one] at ht
  have h1:(cur.toList.take xs.length)[j]? =some (vi xs[j]!):=by rw[ht,List.getElem?_map,get!_of_lt hj'];rfl
  rw[List.getElem?_take_of_lt hj',Array.getElem?_toList] at h1
  refine⟨?_,?_⟩
  ·simp only[World.cell?,hg,Nat.zero_add,h1]
   congr 1
   rw[show(xs.toArray)[j]! =xs[j]! from by simp]
   rfl
  ·simp[World.frozen?,hg]
theorem Hl{w:World}{k:Nat}{os:Array Obj}(hl:ys.length=xs.length)(h:Sat R (bt e 1 (SL.one vi) (.slice (some ⟨b,0,none⟩) xs.length cap) xs::O) w):
 Sat R (bt e 1 (SL.one vi) (.slice (some ⟨b,0,none⟩) xs.length cap) ys::O) (grow (putRow (Value.int .i64) (Go.Sort.ahead w k) b 0 ys.toArray) os):=by
 have hp:=h.see List.mem_cons_self
 have hlt:=jB hp b (by simp[Value.ownBlock])
 obtain⟨hll,hv⟩:=hp
 rcases hv with⟨h0,_⟩|⟨g,c,cur,hv,_,hg,hn,hc,hs,ht⟩
 ·cases h0
 simp only[Value.slice.injEq,Option.some.injEq,Addr.mk.injEq,and_true,true_and] at hv
 obtain⟨rfl,rfl⟩:=hv
 have hsz:(putRow (Value.int .i64) (Go.Sort.ahead w k) b 0 ys.toArray).heap.size=w.heap.size:=by rw[size_putRow];rfl
 have hheap: ∀j,j<w.heap.size->(grow (putRow (Value.int .i64) (Go.Sort.ahead w k) b 0 ys.toArray) os).heap[j]? =if b=j then(w.heap[j]?).map (onCells (putCells (Value.int .i64) 0 ys.toArray)) else w.heap[j]? :=λj hj=>by
  show((putRow (Value.int .i64) (Go.Sort.ahead w k) b 0 ys.toArray).heap++os)[j]? =_
  rw[Array.getElem?_append_left (by rw[hsz];exact hj)]
  show((w.heap.modify b (onCells (putCells (Value.int .i64) 0 ys.toArray))))[j]? =_
  rw[Array.getElem?_modify]
 refine h.update _ ⟨rfl,rfl,rfl,?_,λj hj hn=>?_⟩ (λj hj=>.inl hj) (λj hj=>?_) (by simp[bt,Value.ownBlock]) (λw2 ha _=>?_)
 ·show w.heap.size<=((putRow (Value.int .i64) (Go.Sort.ahead w k) b 0 ys.toArray).heap++os).size
  rw[Array.size_append,hsz];omega
 ·rw[hheap j hj,if_neg (λe=>hn (by simp[bt,Value.ownBlock,e]))]
 ·have e:j=b:=by simpa [bt,Value.ownBlock] using hj
  subst e
  show j<((putRow (Value.int .i64) (Go.Sort.ahead w k) j 0 ys.toArray).heap++os).size
  rw[Array.size_append,hsz];omega
 ·have h2:=ha.2.2.2.2 b (by
   show b<((putRow (Value.int .i64) (Go.Sort.ahead w k) b 0 ys.toArray).heap++os).size
   rw[Array.size_append,hsz];omega) (λhn=>hn (by simp[bt,Value.ownBlock]))
  rw[hheap b hlt,if_pos rfl,hg] at h2
  refine⟨by rw[dG,List.length_map,Nat.mul_one],.inr ⟨b,cap,putCells (Value.int .i64) 0 ys.toArray cur,by rw[hl],Nat.zero_le _,h2,by rw[hl];exact hn,hc,by simp[putCells,hs],?_⟩⟩
  rw[dG,Nat.mul_one]
  apply List.ext_getElem?
  intro j
  have hcs:cur.size=cap:=by omega
  by_cases hj:j<ys.length
  ·rw[List.getElem?_take_of_lt hj,Array.getElem?_toList,List.getElem?_map,get!_of_lt hj]
   simp only[putCells,Array.getElem?_mapIdx,Option.map_some]
   rw[Array.getElem?_eq_getElem ao]
   simp only[Option.map_some,Nat.zero_le,true_and,Nat.sub_zero]
   rw[if_pos (by simpa using hj)]
   congr 1
   rw[show(ys.toArray)[j]! =ys[j]! from by simp]
  ·rw[List.getElem?_eq_none (by rw[List.length_take];omega),List.getElem?_eq_none (by rw[List.length_map];omega)]
theorem Dv{P:Program}{f:FuncId}{v:Value}{POST:Value->List RO->List Own->Prop}
 (hc: ∀(blk off cap:Nat) (ss:List Int) (w:World),Holds (Value.int .i64) w blk off ss.toArray->blk<w.heap.size->ss.length<4611686018427387904->
   Calls P f #[.slice (some ⟨blk,off,none⟩) ss.length cap] w λe w'=>e= .returned (.tuple #[])/\ ∃n os,w'=grow (putRow (Value.int .i64) (Go.Sort.ahead w n) blk off (ss.mergeSort λx y=>decide (x<=y)).toArray) os)
 (hne:xs≠ [])
 (hl:xs.length<4611686018427387904) (hk:POST (.tuple #[]) R (bt e 1 (SL.one vi) v (xs.mergeSort λx y=>decide (x<=y))::O)):Fun P f #[v] R (bt e 1 (SL.one vi) v xs::O) POST:=by
 intro w hs
 have hp:=hs.see List.mem_cons_self
 obtain⟨_,hv⟩:=hp
 rcases hv with⟨rfl,h0⟩|⟨g,c,cur,rfl,_⟩
 ·exact absurd (List.length_eq_zero_iff.1 h0) hne
 ·have hp:=hs.see List.mem_cons_self
  refine(hc g 0 c xs w (CT hp) (jB hp g (by simp[Value.ownBlock])) hl).mono λe' w' ⟨he,k,os,hw⟩=>⟨_,R,_,he,hk,?_⟩
  rw[hw]
  exact Hl (List.length_mergeSort _) hs
end
end Go.SL
namespace Go.Proofs.YtebpkhlifcffnaaGreatDoor.Fs
open Go Go.SL
abbrev kI:Int->Value:=λn=>.int .i64 n
abbrev yY(v:Value)(xs:List Int):Own:=bt 3 1 (SL.one vi) v xs
abbrev M0:Value:=.slice none 0 0
theorem fg{β:Type} [Inhabited β] {l:List β}{i:Nat}(hi:i<l.length):l[i]! ∈l:=by rw[getElem!_pos l i hi];exact List.getElem_mem _
def MX(gf:Nat)(lb:List Value)(R:List RO)(C:List Own)(S:List Int->Prop)(N:Nat):Prop:=
 ∀(γ:Type) (l:Nat) (c1:Own) (I:List Int->γ->List Own->List Own) (g0:γ) (X:List Own) (POST:Value->List RO->List Own->Prop),
  (∀c∈C,c∈X)->(∀xs g c X,(I xs g (c::X)).Perm (c::I xs g X))->
  (∀xs g X x,xs.length<N->Yld Tryz.prog l [vi x] R (c1::I xs g X) (λb R' O'=>b=true/\ ∃g',∀w,Sat R' O' w->Sat R (c1::I (xs++[x]) g' X) w))->
  (∀xs g,S xs->POST (.tuple #[]) R (c1::I xs g X))->Fun Tryz.prog gf (.func (.yield l) #[] #[]::lb).toArray R (c1::I [] g0 X) POST
theorem CY{γ:Type}{I:List Int->γ->List Own->List Own}(hP: ∀xs g c X,(I xs g (c::X)).Perm (c::I xs g X)){xs:List Int}{g:γ}{c:Own}: ∀{X:List Own},c∈X->c∈I xs g X
 | [],h=>by cases h
 |d::X,h=>by
  refine(hP xs g d X).mem_iff.2 ?_
  rcases List.mem_cons.1 h with rfl|h
  ·exact List.mem_cons_self
  ·exact List.mem_cons_of_mem _ (CY hP h)
section
variable{R:List RO}{O O':List Own}{POST:Value->List RO->List Own->Prop}
structure rk{β:Type}(m:aO Int β)(xs:List Int)(seen:List Nat):Prop where
 ex: ∃ys:List (Int×β×Nat),ys.Nodup/\(∀y∈ys,y∈m.l)/\seen=ys.map (·.2.2)/\xs=ys.map (·.1)
theorem Cm{β:Type}(m:aO Int β):m.l.Nodup:=List.Pairwise.of_map (S:=λa b=>a≠b) (λx:Int×β×Nat=>x.1) (λa b h e=>h (by rw[e])) m.keys
theorem rk.start{β:Type}(m:aO Int β):rk m [] []:=⟨[],List.nodup_nil,λ_ h=>absurd h List.not_mem_nil,rfl,rfl⟩
theorem rk.step{β:Type}{m:aO Int β}{xs:List Int}{seen:List Nat}{x:Int×β×Nat}(h:rk m xs seen)(h1:x∈m.l)(h2:x.2.2∉seen):rk m (xs++[x.1]) (seen++[x.2.2]):=by
 obtain⟨ys,g1,g2,rfl,rfl⟩:=h.ex
 refine⟨ys++[x],?_,λy hy=>?_,by simp,by simp⟩
 ·rw[List.nodup_append]
  refine⟨g1,by simp,λa ha b hb=>?_⟩
  rw[List.mem_singleton.1 hb]
  rintro rfl
  exact h2 (List.mem_map_of_mem ha)
 ·rcases List.mem_append.1 hy with h|h
  ·exact g2 y h
  ·rw[List.mem_singleton.1 h];exact h1
theorem rk.len{β:Type}{m:aO Int β}{xs:List Int}{seen:List Nat}(h:rk m xs seen):xs.length<=m.l.length/\seen.length=xs.length:=by
 obtain⟨ys,g1,g2,rfl,rfl⟩:=h.ex
 rw[List.length_map,List.length_map]
 haveI:DecidableEq (Int×β×Nat):=λa b=>Classical.propDecidable (a=b)
 exact⟨lG g1 g2,rfl⟩
theorem rk.lt{β:Type}{m:aO Int β}{xs:List Int}{seen:List Nat}{x:Int×β×Nat}(h:rk m xs seen)(h1:x∈m.l)(h2:x.2.2∉seen):xs.length<m.l.length:=by
 have:=(h.step h1 h2).len.1
 rw[List.length_append] at this
 simp at this;omega
theorem rk.all{β:Type}{m:aO Int β}{xs:List Int}{seen:List Nat}(h:rk m xs seen)(ha: ∀x∈m.l,x.2.2∈seen):xs.Perm m.ks:=by
 obtain⟨ys,g1,g2,rfl,rfl⟩:=h.ex
 have hb:(m.l.map (·.2.2)).Nodup:=m.born
 have:ys.Perm m.l:=by
  rw[List.perm_ext_iff_of_nodup g1 (Cm m)]
  refine λa=>⟨g2 a,λhm=>?_⟩
  obtain⟨y,hy,e⟩:=List.mem_map.1 (ha a hm)
  have:=aO.oo (f:=λx:Int×β×Nat=>x.2.2) hb (g2 y hy) hm e
  exact this▸hy
 exact this.map _
set_option maxRecDepth 20000 in
theorem Cs{b:Nat}(hk: ∀cb,POST (.func (.func 231) #[] #[.pointer (some ⟨cb,0,none⟩)]) R (az cb 218 [.map (some b)]::O)):Fun Tryz.prog 181 #[.map (some b)] R O POST:=by
 refine aC (l:=[_]) Tryz.func181 rfl Tryz.ntmps181 rfl (L0:=[(0,_)]) rfl ?_
 refine aD<|aq rfl<|n3 rfl rfl (by exact⟨rfl,rfl⟩) rfl rfl ?_;intro b1
 refine ar rfl<|a7<|ab rfl (Rd.func rfl aZ aZ ⟨_,rfl⟩) ?_
 refine ar rfl<|aw<|WC.ret (Ret.one Tryz.results181 rfl ?_)
 exact hk _
set_option maxRecDepth 20000 in
theorem Ip{m:aO Int (List UInt8)}{b cb:Nat}(hm:iu kI vs b m∈R):MX 231 [.pointer (some ⟨cb,0,none⟩)] R [az cb 218 [.map (some b)]] (λys=>ys.Perm m.ks) m.l.length:=by
 intro γ l c1 I g0 X POST hC hP hY hk
 have hb: ∀{ys g c},az cb 218 [.map (some b)]∈c::c1::I ys g X:=List.mem_cons_of_mem _ (List.mem_cons_of_mem _ (CY hP (hC _ List.mem_cons_self)))
 have hb0: ∀{ys g},az cb 218 [.map (some b)]∈c1::I ys g X:=List.mem_cons_of_mem _ (CY hP (hC _ List.mem_cons_self))
 refine mU (l:=[_,_]) Tryz.func231 rfl Tryz.ntmps231 rfl (L0:=[(0,_),(1,_)]) rfl ?_
 refine WR.seq<|jg<|WY.rd rfl rfl rfl (ax (off:=0) (u:=.map (some b)) rfl R5 rfl hb0 rfl) ?_
 refine WY.op rfl<|Du (kenc:=kI) (venc:=vs) (m:=m) Mi rfl rfl hm rfl rfl ?_;intro it
 refine WY.nil<|cx.normal<|WR.block ?_
 refine WR.pick [0,5] eS ?_
 refine WR.rR 0 (λ(xs:List Int) (seen:List Nat) (g:γ)=>[]) (λ(xs:List Int) (seen:List Nat) (g:γ)=>fe it b m.clock seen::c1::I xs g X) (λ(xs:List Int) (seen:List Nat) (g:γ)=>rk m xs seen) (λ(xs:List Int) (seen:List Nat) (g:γ)=>m.l.length-xs.length) ([]) ([]) (g0) iw ?hinv1 cC (λ_ h=>h) ?_
 case hinv1=>
  exact rk.start m
 intro xs seen g
 rintro i1
 refine WR.seq<|WR.region<|aq rfl<|Hi (kenc:=kI) (venc:=vs) (m:=m) (seen:=seen) rfl rfl hm bh rfl rfl ?_;intro r hr
 refine ab rfl (xW rfl rfl)<|aG<|cx.normal<|WR.seq<|WR.ite rfl (λhc1=>?_) (λhc1=>?_)
 ·
  obtain⟨x,rfl⟩:=Option.isSome_iff_exists.1 hc1
  refine WR.skip<|cx.normal<|WR.block ?_
  refine WR.seq<|WR.region<|aq rfl<|OpW.rd rfl rfl (Hj (kenc:=kI) (venc:=vs) (m:=m) (q:=x) (seen:=seen) rfl rfl hm aK hr.1 rfl) ?_
  refine bH rfl<|ar rfl<|aG<|cx.normal<|WR.seq<|jg<|WY.rd rfl rfl rfl (al rfl rfl)<|WY.rd rfl rfl rfl (al rfl rfl)<|WY.yield rfl rfl rfl aZ rfl rfl ?_
  refine Yld.heap (R':=R) (O':=c1::I xs g (fe it b m.clock (seen++[x.2.2])::X)) (λw h=>h.perm ?_) ?_
  ·exact(List.Perm.swap _ _ _).trans (List.Perm.cons _ (hP _ _ _ _).symm)
  refine(hY xs g (fe it b m.clock (seen++[x.2.2])::X) x.1 (i1.lt hr.1 hr.2)).mono ?_
  rintro b' R' O' ⟨rfl,g',hS⟩
  refine WY.heap (R':=R) (O':=fe it b m.clock (seen++[x.2.2])::c1::I (xs++[x.1]) g' X) (λw h=>(hS w h).perm ?_) ?_
  ·exact(List.Perm.cons _ (hP _ _ _ _)).trans (List.Perm.swap _ _ _)
  refine WY.rd rfl rfl rfl ((by exact Rd.not rfl rfl)) ?_
  refine WY.nil<|cx.normal<|WR.cond rfl (λhc2=>?_) (λhc2=>?_)
  ·
   cases hc2
  ·
   exact WR.skip<|aA<|dN.mk (xs++[x.1]) (seen++[x.2.2]) g' (i1.step hr.1 hr.2) (by have:=i1.lt hr.1 hr.2;rw[List.length_append];simp;omega) cC bN
 ·
  obtain rfl:r=none:=by
   cases r with
   |some x=>exact absurd rfl hc1
   |none=>rfl
  refine WR.heap (R':=R) (O':=c1::I xs g X) bN ?_
  refine WR.exit<|cx.exit<|dN.exit<|aH.exit<|Ret.normal (Ret.zero Tryz.results231 ?_)
  exact hk xs g (i1.all hr)
set_option maxRecDepth 20000 in
theorem FR{gf:Nat}{lb:List Value}{C:List Own}{S:List Int->Prop}{N:Nat}(it:MX gf lb R C S N)(hb:cZ Tryz.prog gf=true)(hN:N<=1000000)(hC: ∀c∈C,c∈O)(hk: ∀v xs,S xs->POST v R (yY v xs::O)):
 Fun Tryz.prog 284 #[M0,.func (.func gf) #[] lb.toArray] R O POST:=by
 refine aC (l:=[_,_]) Tryz.func284 rfl Tryz.ntmps284 rfl (L0:=[(0,_),(1,_)]) rfl ?_
 refine aD<|aq rfl<|n3 rfl rfl (by exact⟨rfl,rfl⟩) rfl rfl ?_;intro b2
 refine WL.heap (λw h=>Sat.dH (e:=3) (size:=1) (enc:=SL.one vi) h) ?_
 refine ar rfl<|aw<|WC.pK<|aB<|af rfl<|aG<|pD.normal<|iy.mk rfl (hb) ?_
 intro l0 D0
 refine Fun.heap (R':=R) (O':=recC l0 _ _ D0 .ready none _ _ _::az b2 23 [M0]::yY M0 []::dfC D0::O) bN ?_
 refine it Value l0 _ (λxs v X=>az b2 23 [v]::yY v xs::X) M0 (dfC D0::O) _ (λc hc=>List.mem_cons_of_mem _ (hC c hc)) (λxs v c X=>(List.Perm.cons _ (List.Perm.swap _ _ _)).trans (List.Perm.swap _ _ _)) ?round ?after
 case round=>
  intro xs v X x hlen
  refine Yld.round bh rfl rfl rfl ?_
  refine WR.region<|ar rfl<|aG<|mK.mk bh ?_
  refine WR.block ?_
  refine WR.region<|ab rfl (ax (b:=b2) (off:=0) (u:=v) rfl C23 rfl aK rfl) ?_
  refine af rfl<|aq rfl<|aX (ps:=[(0,_)]) rfl S23 aZ rfl rfl fy an rfl rfl rfl ?_;intro b10
  refine aq rfl<|bR (enc:=SL.one vi) rfl S23 rfl rfl bh bh [x] rfl (by rfl) rfl ie ie (by exact⟨by simp only[maxLen,List.length_append,List.length_nil,List.length_cons,List.length_drop,List.length_take,List.length_map];omega,by omega⟩) rfl rfl ?_;intro v11 hv11
  refine aq rfl<|aV rfl Z23 rfl rfl (by assumption) bh (by(simp;done)) rfl ?_
  refine aG<|aA<|nW.on bh ?_
  exact⟨rfl,v11,bN⟩
 case after=>
  intro xs v hS
  refine⟨_,bh,?_⟩
  refine aD<|ab rfl (ax (b:=b2) (off:=0) (u:=v) rfl C23 rfl aK rfl) ?_
  refine ar rfl<|aw<|WC.heap (R':=R) (O':=dfC D0::yY v xs::O) bN ?_
  refine WC.Cb (kV.mark bh (kV.nil)) (iD.mk (Ret.one Tryz.results284 rfl ?_))
  exact hk v xs hS
set_option maxRecDepth 20000 in
theorem CV{gf:Nat}{lb:List Value}{C:List Own}{S:List Int->Prop}{N:Nat}(it:MX gf lb R C S N)(hb:cZ Tryz.prog gf=true)(hN:N<=1000000)(hC: ∀c∈C,c∈O)(hk: ∀v xs,S xs->POST v R (yY v xs::O)):
 Fun Tryz.prog 229 #[.func (.func gf) #[] lb.toArray] R O POST:=by
 refine aC (l:=[_]) Tryz.func229 rfl Tryz.ntmps229 rfl (L0:=[(0,_)]) rfl ?_
 refine aD<|ar rfl<|a7<|af rfl ?_
 refine aq rfl<|aj rfl rfl aZ an rfl rfl rfl ?_
 refine FR it hb hN hC ?_;intro v4 xs hS
 refine ar rfl<|aw<|WC.ret (Ret.one Tryz.results229 rfl ?_)
 exact hk _ _ hS
def srt(xs:List Int):List Int:=xs.mergeSort λx y=>decide (x<=y)
theorem Gj{v:Value}{xs:List Int}(hne:xs≠ [])(hl:xs.length<=1000000)(hk:POST (.tuple #[]) R (yY v (srt xs)::O)):Fun Tryz.prog 230 #[v] R (yY v xs::O) POST:=
 Dv (λblk off cap ss w h1 h2 h3=>Tryz.slices_Sort_int blk off cap ss w h1 h2 h3) hne ao hk
set_option maxRecDepth 20000 in
theorem GH{gf:Nat}{lb:List Value}{C:List Own}{S:List Int->Prop}{N:Nat}(it:MX gf lb R C S N)(hb:cZ Tryz.prog gf=true)(hN:N<=1000000)(hSN: ∀xs,S xs->xs≠ []/\xs.length<=1000000)(hC: ∀c∈C,c∈O)(hk: ∀v xs,S xs->POST v R (yY v (srt xs)::O)):
 Fun Tryz.prog 180 #[.func (.func gf) #[] lb.toArray] R O POST:=by
 refine aC (l:=[_]) Tryz.func180 rfl Tryz.ntmps180 rfl (L0:=[(0,_)]) rfl ?_
 refine aD<|ar rfl<|a7<|af rfl ?_
 refine aq rfl<|aj rfl rfl aZ an rfl rfl rfl ?_
 refine CV it hb hN hC ?_;intro v5 xs hS
 refine ar rfl<|a7<|af rfl<|aq rfl<|aj rfl rfl aZ an rfl rfl rfl ?_
 refine Gj (xs:=xs) (hSN _ hS).1 (hSN _ hS).2 ?_
 refine a7<|af rfl<|ar rfl<|aw ?_
 refine WC.ret (Ret.one Tryz.results180 rfl ?_)
 exact hk _ _ hS
end
end Go.Proofs.YtebpkhlifcffnaaGreatDoor.Fs
namespace Go.Proofs.YtebpkhlifcffnaaGreatDoor.Fs
open Go Go.SL
abbrev Ref:=Tx×Tx
abbrev Upd:=Tx×Tx×Tx
def nmR(k:Nat):Tx:=(if k<3 then [104,101,97,100,115,47] else [116,97,103,115,47])++[UInt8.ofNat (97+k)]
def hdM:Tx:=[104,101,97,100,115,47,109,97,105,110]
def uO(s:Tx):Prop:= ∃k,k<5/\s=nmR k
theorem P9{α:Type}{a:α}: [a].Nodup:=List.pairwise_singleton _ _
theorem IY: ∀d,d<5-> ∀c,c<d->Lt (nmR c) (nmR d):=by decide
theorem DO{c d:Nat}(hc:c<5)(hd:d<5)(h:nmR c=nmR d):c=d:=by
 rcases Nat.lt_trichotomy c d with g|g|g
 ·exact absurd (h▸IY d hd c g) Lt.irrefl
 ·exact g
 ·exact absurd (h▸IY c hc d g) Lt.irrefl
theorem La{k:Nat}(h:k<5):6<=(nmR k).length/\(nmR k).length<=7:=by
 have: ∀k,k<5->6<=(nmR k).length/\(nmR k).length<=7:=by decide
 exact this k h
theorem uO.len{s:Tx}(h:uO s):s.length<=7/\s≠ []:=by
 obtain⟨k,hk,rfl⟩:=h
 have:=La hk
 exact⟨this.2,λe=>by rw[e] at this;simp at this⟩
def jq:List Tx:=(List.range 5).map nmR
theorem AR{s:Tx}(h:uO s):s∈jq:=by
 obtain⟨k,hk,rfl⟩:=h
 exact List.mem_map.2 ⟨k,List.mem_range.2 hk,rfl⟩
def ly:List Ref->Tx->Tx
 | [],_=>[]
 |r::t,s=>if r.1=s then r.2 else ly t s
def oM:List Ref->Ref->List Ref
 | [],x=>[x]
 |r::t,x=>if r.1=x.1 then x::t else if Op.bytesLess r.1 x.1 then r::oM t x else x::r::t
theorem ES(t:List Ref)(x:Ref)(s:Tx):ly (oM t x) s=if s=x.1 then x.2 else ly t s:=by
 induction t with
 |nil=>show(if x.1=s then x.2 else [])=_;by_cases h:s=x.1<;>simp[h,ly,eq_comm]
 |cons r t ih=>
  unfold oM
  split
  ·rename_i h
   show(if x.1=s then x.2 else ly t s)=_
   by_cases g:s=x.1
   ·simp[g]
   ·rw[if_neg (λe=>g e.symm),if_neg g]
    show _=if r.1=s then r.2 else ly t s
    rw[if_neg (λe=>g (by rw[←e,h]))]
  ·rename_i h
   split
   ·show(if r.1=s then r.2 else ly (oM t x) s)=_
    rw[ih]
    by_cases g:s=x.1
    ·rw[if_pos g,if_pos g,if_neg (λe=>h (by rw[e,g]))]
    ·rw[if_neg g,if_neg g];rfl
   ·show(if x.1=s then x.2 else ly (r::t) s)=_
    by_cases g:s=x.1
    ·rw[if_pos g.symm,if_pos g]
    ·rw[if_neg (λe=>g e.symm),if_neg g]
theorem DH{t:List Ref}{x y:Ref}(h:y∈oM t x):y=x∨y∈t:=by
 induction t with
 |nil=>exact .inl (List.mem_singleton.1 h)
 |cons r t ih=>
  unfold oM at h
  split at h
  ·rcases List.mem_cons.1 h with h|h
   ·exact .inl h
   ·exact .inr (List.mem_cons_of_mem _ h)
  ·split at h
   ·rcases List.mem_cons.1 h with h|h
    ·exact .inr (h▸List.mem_cons_self)
    ·rcases ih h with h|h
     ·exact .inl h
     ·exact .inr (List.mem_cons_of_mem _ h)
   ·rcases List.mem_cons.1 h with h|h
    ·exact .inl h
    ·exact .inr h
theorem LM{t:List Ref}{x:Ref}(h:Asc (t.map (·.1))):Asc ((oM t x).map (·.1)):=by
 induction t with
 |nil=>exact List.pairwise_singleton _ _
 |cons r t ih=>
  rw[List.map_cons,Asc,List.pairwise_cons] at h
  unfold oM
  split
  ·rename_i g
   rw[List.map_cons,Asc,List.pairwise_cons,←g]
   exact h
  ·rename_i g
   split
   ·rename_i l
    rw[List.map_cons,Asc,List.pairwise_cons]
    refine⟨λb hb=>?_,ih h.2⟩
    obtain⟨y,hy,rfl⟩:=List.mem_map.1 hb
    rcases DH hy with rfl|hy
    ·exact l
    ·exact h.1 _ (List.mem_map.2 ⟨y,hy,rfl⟩)
   ·rename_i l
    have l':Lt x.1 r.1:=BI (λe=>l e) g
    rw[List.map_cons,Asc,List.pairwise_cons]
    refine⟨λb hb=>?_,by rw[List.map_cons,List.pairwise_cons];exact h⟩
    rw[List.map_cons] at hb
    rcases List.mem_cons.1 hb with rfl|hb
    ·exact l'
    ·exact l'.trans (h.1 _ hb)
theorem get_none{t:List Ref}{s:Tx}(h: ∀r∈t,r.1≠s):ly t s=[]:=by
 induction t with
 |nil=>rfl
 |cons r t ih=>
  show(if r.1=s then r.2 else ly t s)=[]
  rw[if_neg (h r List.mem_cons_self)]
  exact ih λy hy=>h y (List.mem_cons_of_mem _ hy)
theorem get_at{t:List Ref}(h:Asc (t.map (·.1))){i:Nat}(hi:i<t.length):ly t t[i]!.1=t[i]!.2:=by
 induction t generalizing i with
 |nil=>exact absurd hi (Nat.not_lt_zero _)
 |cons r t ih=>
  rw[List.map_cons,Asc,List.pairwise_cons] at h
  cases i with
  |zero=>show(if r.1=r.1 then r.2 else _)=r.2;rw[if_pos rfl]
  |succ i=>
   rw[List.length_cons] at hi
   have e:(r::t)[i+1]! =t[i]! :=by simp
   rw[e]
   show(if r.1=t[i]!.1 then r.2 else ly t t[i]!.1)=_
   have:Lt r.1 t[i]!.1:=h.1 _ (List.mem_map.2 ⟨t[i]!,fg ao,rfl⟩)
   rw[if_neg (λe=>by rw[e] at this;exact Lt.irrefl this)]
   exact ih h.2 ao
structure nX(t:List Ref)(s:Tx)(p:Nat):Prop where
 le:p<=t.length
 lo: ∀j,j<p->Lt t[j]!.1 s
 hi: ∀j,p<=j->j<t.length-> ¬Lt t[j]!.1 s
theorem nX.get{t:List Ref}{s:Tx}{p:Nat}(h:nX t s p)(ha:Asc (t.map (·.1))):if p<t.length/\t[p]!.1=s then ly t s=t[p]!.2 else(∀r∈t,r.1≠s):=by
 split
 ·rename_i g
  rw[←g.2]
  exact get_at ha g.1
 ·rename_i g
  intro r hr e
  obtain⟨j,hj,e2⟩:=List.mem_iff_getElem.1 hr
  have e3:t[j]! =r:=by rw[getElem!_pos t j hj];exact e2
  rcases Nat.lt_or_ge j p with g1|g1
  ·have:=h.lo j g1
   rw[e3,e] at this
   exact Lt.irrefl this
  ·rcases Nat.eq_or_lt_of_le g1 with g2|g2
   ·subst g2;exact g ⟨hj,by rw[e3,e]⟩
   ·have g3:Lt t[p]!.1 s:=by
     have hp:p<t.length:=by omega
     have:=List.pairwise_iff_getElem.1 ha p j (by rw[List.length_map];exact hp) (by rw[List.length_map];exact hj) g2
     rw[List.getElem_map,List.getElem_map,←getElem!_pos t p hp,←getElem!_pos t j hj,e3,e] at this
     exact this
    exact h.hi p (Nat.le_refl _) ao g3
theorem nX.put{t:List Ref}{x:Ref}{p:Nat}(h:nX t x.1 p)(ha:Asc (t.map (·.1))):oM t x=if p<t.length/\t[p]!.1=x.1 then t.set p x else t.take p++x::t.drop p:=by
 induction t generalizing p with
 |nil=>
  obtain rfl:p=0:=Nat.le_zero.1 h.le
  rfl
 |cons r t ih=>
  rw[List.map_cons,Asc,List.pairwise_cons] at ha
  cases p with
  |zero=>
   have h0:=h.hi 0 (Nat.le_refl _) (by simp)
   have h0: ¬Lt r.1 x.1:=h0
   unfold oM
   by_cases g:r.1=x.1
   ·rw[if_pos g,if_pos ⟨by simp,g⟩];rfl
   ·rw[if_neg g,if_neg (λe=>h0 e),if_neg (λe=>g e.2)];rfl
  |succ p=>
   have h0:Lt r.1 x.1:=h.lo 0 ao
   have hp:nX t x.1 p:=⟨by have:=h.le;simp at this;omega,λj hj=>by have:=h.lo (j+1) ao;simpa using this,λj h1 h2=>by have:=h.hi (j+1) ao (by simp;omega);simpa using this⟩
   unfold oM
   rw[if_neg (λe=>by rw[e] at h0;exact Lt.irrefl h0),if_pos h0,ih hp ha.2]
   have e:(r::t)[p+1]! =t[p]! :=by simp
   rw[e]
   by_cases g:p<t.length/\t[p]!.1=x.1
   ·rw[if_pos g,if_pos ⟨by simp;exact g.1,g.2⟩];rfl
   ·rw[if_neg g,if_neg (λq=>g ⟨by have:=q.1;simp at this;exact this,q.2⟩)];rfl
theorem Cw{t:List Ref}(ha:Asc (t.map (·.1))){x y:Nat}(hxy:x<y)(hy:y<t.length):Lt t[x]!.1 t[y]!.1:=by
 have:=List.pairwise_iff_getElem.1 ha x y (by rw[List.length_map];omega) (by rw[List.length_map];exact hy) hxy
 rwa [List.getElem_map,List.getElem_map,←getElem!_pos t x ao,←getElem!_pos t y hy] at this
theorem IP{t:List Ref}{s:Tx}{h x:Nat}(ha:Asc (t.map (·.1)))(hh:h<t.length)(h1:Lt t[h]!.1 s)(hx:x<h+1):Lt t[x]!.1 s:=by
 rcases Nat.lt_or_ge x h with g|g
 ·exact(Cw ha g hh).trans h1
 ·obtain rfl:x=h:=by omega
  exact h1
theorem ID{t:List Ref}{s:Tx}{h x:Nat}(ha:Asc (t.map (·.1)))(h1: ¬Lt t[h]!.1 s)(hx:h<=x)(hl:x<t.length): ¬Lt t[x]!.1 s:=by
 rcases Nat.lt_or_ge h x with g|g
 ·exact λq=>h1 ((Cw ha g hl).trans q)
 ·obtain rfl:x=h:=by omega
  exact h1
def wg(s:Tx):Prop:=s=[]∨s.length=32
structure ym(u:Upd):Prop where
 L7:uO u.1
 old:wg u.2.1
 new:u.2.2.length=32
 ne:u.2.1≠u.2.2
structure lW(t:List Ref)(l:List Upd):Prop where
 ne:l≠ []
 nd:(l.map (·.1)).Nodup
 ok: ∀u∈l,ym u
 was: ∀u∈l,ly t u.1=u.2.1
def eZ(t:List Ref)(l:List Upd):List Ref:=l.foldl (λt u=>oM t (u.1,u.2.2)) t
structure TOk(t:List Ref)(L:List Upd):Prop where
 asc:Asc (t.map (·.1))
 ok: ∀r∈t,uO r.1/\r.2.length=32
 log: ∀u∈L,ym u
 len:L.length<=120
theorem IH(t:List Ref)(l:List Upd)(u:Upd):eZ t (l++[u])=oM (eZ t l) (u.1,u.2.2):=by unfold eZ;rw[List.foldl_append];rfl
theorem IF{t:List Ref}{l:List Upd}(ha:Asc (t.map (·.1)))(ht: ∀r∈t,uO r.1/\r.2.length=32)(hl: ∀u∈l,ym u):Asc ((eZ t l).map (·.1))/\ ∀r∈eZ t l,uO r.1/\r.2.length=32:=by
 induction l generalizing t with
 |nil=>exact⟨ha,ht⟩
 |cons u l ih=>
  refine ih (LM ha) (λr hr=>?_) λu hu=>hl u (List.mem_cons_of_mem _ hu)
  rcases DH hr with rfl|hr
  ·have:=hl u List.mem_cons_self
   exact⟨this.L7,this.new⟩
  ·exact ht r hr
theorem TOk.app{t:List Ref}{L l:List Upd}(h:TOk t L)(hl:lW t l)(hn:L.length+l.length<=120):TOk (eZ t l) (L++l):=by
 obtain⟨h1,h2⟩:=IF h.asc h.ok hl.ok
 refine⟨h1,h2,λu hu=>?_,by rw[List.length_append];exact hn⟩
 rcases List.mem_append.1 hu with hu|hu
 ·exact h.log u hu
 ·exact hl.ok u hu
theorem TOk.F0{t:List Ref}{L:List Upd}(h:TOk t L):t.length<=5:=by
 have:=lG h.asc.nodup (l':=jq) λs hs=>by
  obtain⟨r,hr,rfl⟩:=List.mem_map.1 hs
  exact AR (h.ok r hr).1
 rw[List.length_map] at this
 exact this
theorem KS{t:List Ref}{l:List Upd}(hn:(l.map (·.1)).Nodup)(s:Tx):((∀u∈l,u.1≠s)->ly (eZ t l) s=ly t s)/\ ∀u∈l,u.1=s->ly (eZ t l) s=u.2.2:=by
 induction l generalizing t with
 |nil=>exact⟨λ_=>rfl,λu hu=>absurd hu List.not_mem_nil⟩
 |cons v l ih=>
  rw[List.map_cons,List.nodup_cons] at hn
  obtain⟨h1,h2⟩:=ih (t:=oM t (v.1,v.2.2)) hn.2
  have e:eZ t (v::l)=eZ (oM t (v.1,v.2.2)) l:=rfl
  rw[e]
  refine⟨λh=>?_,λu hu hs=>?_⟩
  ·rw[h1 λu hu=>h u (List.mem_cons_of_mem _ hu),ES,if_neg (λe=>h v List.mem_cons_self e.symm)]
  ·rcases List.mem_cons.1 hu with rfl|hu
   ·rw[h1 λw hw e=>hn.1 (List.mem_map.2 ⟨w,hw,by rw[e,hs]⟩),ES,if_pos hs.symm]
   ·exact h2 u hu hs
def cO(t:List Ref):List Tx:=t.flatMap λr=>[r.1,r.2]
def bz(l:List Upd):List Tx:=l.flatMap λu=>[u.1,u.2.1,u.2.2]
theorem py(t:List Ref):(cO t).length=2*t.length:=by
 induction t with
 |nil=>rfl
 |cons r t ih=>show(_::_::cO t).length=_;simp only[List.length_cons,ih];omega
theorem gW(l:List Upd):(bz l).length=3*l.length:=by
 induction l with
 |nil=>rfl
 |cons u l ih=>show(_::_::_::bz l).length=_;simp only[List.length_cons,ih];omega
def pC(t:List Ref)(L:List Upd):Tx:=bD [hdM,bD (cO t),bD (bz L)]
def sB(l:List Upd):Tx:=bD [[],bD (bz l)]
theorem y6{n:Nat}(h:n<2097152):(cV n).length<=3:=eu (k:=2) h
theorem y4{n:Nat}(h:n<128):(cV n).length<=1:=eu (k:=0) h
theorem join_le{l:List Tx}(h: ∀x∈l,x.length<=32):(bD l).length<=33*l.length:=by
 induction l with
 |nil=>exact Nat.le_refl _
 |cons x l ih=>
  have h1:=ih λy hy=>h y (List.mem_cons_of_mem _ hy)
  have h2:=h x List.mem_cons_self
  have h3:=y4 (n:=x.length) ao
  rw[ec,gy ao]
  simp only[List.length_append,List.length_cons]
  omega
theorem wF{t:List Ref}(h: ∀r∈t,uO r.1/\r.2.length=32): ∀x∈cO t,x.length<=32:=λx hx=>by
 obtain⟨r,hr,hx⟩:=List.mem_flatMap.1 hx
 obtain⟨h1,h2⟩:=h r hr
 have:=h1.len.1
 simp only[List.mem_cons,List.not_mem_nil,or_false] at hx
 rcases hx with rfl|rfl<;>omega
theorem oh{l:List Upd}(h: ∀u∈l,ym u): ∀x∈bz l,x.length<=32:=λx hx=>by
 obtain⟨u,hu,hx⟩:=List.mem_flatMap.1 hx
 have h1:=h u hu
 have:=h1.L7.len.1
 have:=h1.new
 simp only[List.mem_cons,List.not_mem_nil,or_false] at hx
 rcases hx with rfl|rfl|rfl
 ·omega
 ·rcases h1.old with e|e
  ·rw[e];exact Nat.zero_le _
  ·omega
 ·omega
theorem F5{a b:Tx}(ha:a.length<=32)(hb:b.length<2097152):(bD [a,b]).length<=36+b.length:=by
 have h1:=y4 (n:=a.length) ao
 have h2:=y6 hb
 rw[ec,ec,gA ao,gA ao]
 simp only[List.length_append,bD,List.flatMap_nil,List.length_nil]
 omega
theorem Ft{a b c:Tx}(ha:a.length<=32)(hb:b.length<2097152)(hc:c.length<2097152):(bD [a,b,c]).length<=39+b.length+c.length:=by
 have h1:=y4 (n:=a.length) ao
 have h2:=y6 hb
 have h3:=y6 hc
 rw[ec,ec,ec,gA ao,gA ao,gA ao]
 simp only[List.length_append,bD,List.flatMap_nil,List.length_nil]
 omega
theorem TOk.join{t:List Ref}{L:List Upd}(h:TOk t L):(bD (cO t)).length<=330/\(bD (bz L)).length<=11880/\(pC t L).length<=12260:=by
 have h1:=join_le (wF h.ok)
 have h2:=join_le (oh h.log)
 rw[py] at h1
 rw[gW] at h2
 have h3:=h.F0
 have h4:=h.len
 have h5:=Ft (a:=hdM) (b:=bD (cO t)) (c:=bD (bz L)) ct ao ao
 exact⟨by omega,by omega,by show(bD _).length<=_;omega⟩
theorem Ir{l:List Upd}(h: ∀u∈l,ym u)(hl:l.length<=120):(bD (bz l)).length<=99*l.length/\(sB l).length<=36+99*l.length:=by
 have h2:=join_le (oh h)
 rw[gW] at h2
 have h5:=F5 (a:=[]) (b:=bD (bz l)) ct ao
 exact⟨by omega,by show(bD _).length<=_;omega⟩
def frT(t:List Ref)(L:List Upd):Tx:=eQ 1 (pC t L)
def frU(l:List Upd):Tx:=eQ 2 (sB l)
theorem qN{k:UInt8}{b:Tx}(h:b.length<=20000):5<(eQ k b).length/\(eQ k b).length<=b.length+8:=by
 have h1:=y6 (n:=b.length) ao
 have h2:(cV b.length).length≠0:=λe=>by have:=List.eq_nil_of_length_eq_zero e;exact yC _ [] (by rw[this];rfl)
 rw[p8 ao]
 omega
def EG(t:List Ref)(L:List Upd)(us:List (List Upd)):Tx:=frT t L++us.flatMap frU
def Chn:List Ref->List Upd->List (List Upd)->List Ref->List Upd->Prop
 |t0,L0,[],t,L=>t=t0/\L=L0
 |t0,L0,u::us,t,L=>lW t0 u/\L0.length+u.length<=120/\Chn (eZ t0 u) (L0++u) us t L
theorem Chn.snoc{t0:List Ref}{L0:List Upd}{us:List (List Upd)}{t:List Ref}{L:List Upd}(h:Chn t0 L0 us t L){u:List Upd}(hu:lW t u)(hn:L.length+u.length<=120):Chn t0 L0 (us++[u]) (eZ t u) (L++u):=by
 induction us generalizing t0 L0 with
 |nil=>obtain⟨rfl,rfl⟩:=h;exact⟨hu,hn,rfl,rfl⟩
 |cons v us ih=>exact⟨h.1,h.2.1,ih h.2.2⟩
theorem Chn.tok{t0:List Ref}{L0:List Upd}{us:List (List Upd)}{t:List Ref}{L:List Upd}(h:Chn t0 L0 us t L)(h0:TOk t0 L0):TOk t L:=by
 induction us generalizing t0 L0 with
 |nil=>obtain⟨rfl,rfl⟩:=h;exact h0
 |cons v us ih=>exact ih h.2.2 (h0.app h.1 h.2.1)
structure RSt(c:Tx)(t:List Ref)(L:List Upd):Prop where
 ex: ∃t0 L0 us,c=EG t0 L0 us/\TOk t0 L0/\Chn t0 L0 us t L
 len:c.length<=12300
theorem RSt.tok{c:Tx}{t:List Ref}{L:List Upd}(h:RSt c t L):TOk t L:=by
 obtain⟨t0,L0,us,_,h1,h2⟩:=h.ex
 exact h2.tok h1
theorem RSt.all{t:List Ref}{L:List Upd}(h:TOk t L):RSt (frT t L) t L:=by
 refine⟨⟨t,L,[],by unfold EG;simp,h,rfl,rfl⟩,?_⟩
 have:=h.join.2.2
 have:=(qN (k:=1) (b:=pC t L) ao).2
 unfold frT
 omega
theorem RSt.app{c:Tx}{t:List Ref}{L u:List Upd}(h:RSt c t L)(hu:lW t u)(hn:L.length+u.length<=120)(hc:c.length+(frU u).length<=8192):RSt (c++frU u) (eZ t u) (L++u):=by
 obtain⟨t0,L0,us,rfl,h1,h2⟩:=h.ex
 exact⟨⟨t0,L0,us++[u],by unfold EG;rw[List.flatMap_append,List.append_assoc];simp,h1,h2.snoc hu hn⟩,by rw[List.length_append];omega⟩
def toR(b:Int):Tx:=UInt8.ofNat (land .i64 b 255)::List.replicate 31 0
theorem Mn(b:Int):(toR b).length=32:=by unfold toR;simp
def oL(b:Int)(k:Nat):Bool:=decide (land .i64 (b/2^k) 1=1)
def uTo(bits:Int)(td:Tx)(at_:List Tx):Nat->List Upd
 |0=>[]
 |k+1=>uTo bits td at_ k++if oL bits k=true/\td≠at_[k]! then [(nmR k,at_[k]!,td)] else []
def nTo(bits:Int)(td:Tx)(at_:List Tx):Nat->List Tx
 |0=>at_
 |k+1=>if oL bits k=true/\td≠at_[k]! then(nTo bits td at_ k).set k td else nTo bits td at_ k
structure ve(at_:List Tx)(t:List Ref):Prop where
 len:at_.length=5
 id: ∀k,k<5->wg at_[k]!
 get: ∀k,k<5->ly t (nmR k)=at_[k]!
section
variable{bits:Int}{td:Tx}{at_:List Tx}{t:List Ref}
theorem sY{k:Nat}{u:Upd}(h:u∈uTo bits td at_ k): ∃j,j<k/\oL bits j=true/\td≠at_[j]! /\u=(nmR j,at_[j]!,td):=by
 induction k with
 |zero=>exact absurd h List.not_mem_nil
 |succ k ih=>
  rcases List.mem_append.1 h with h|h
  ·obtain⟨j,h1,h2⟩:=ih h;exact⟨j,by omega,h2⟩
  ·split at h
   ·rename_i g;rw[List.mem_singleton] at h;exact⟨k,by omega,g.1,g.2,h⟩
   ·exact absurd h List.not_mem_nil
theorem KV{k j:Nat}(hj:j<k)(h1:oL bits j=true)(h2:td≠at_[j]!):(nmR j,at_[j]!,td)∈uTo bits td at_ k:=by
 induction k with
 |zero=>omega
 |succ k ih=>
  refine List.mem_append.2 ?_
  by_cases e:j=k
  ·subst e;right;rw[if_pos ⟨h1,h2⟩];exact List.mem_cons_self
  ·left;exact ih ao
theorem EV(k:Nat):(uTo bits td at_ k).length<=k:=by
 induction k with
 |zero=>exact Nat.le_refl _
 |succ k ih=>unfold uTo;rw[List.length_append];split<;>simp<;>omega
theorem IK{k:Nat}(hk:k<=5):((uTo bits td at_ k).map (·.1)).Nodup:=by
 induction k with
 |zero=>exact List.nodup_nil
 |succ k ih=>
  unfold uTo
  split
  ·rw[List.map_append,List.nodup_append]
   refine⟨ih ao,P9,λa ha b hb e=>?_⟩
   obtain⟨u,hu,rfl⟩:=List.mem_map.1 ha
   obtain⟨j,hj,_,_,rfl⟩:=sY hu
   rw[List.map_singleton,List.mem_singleton] at hb
   rw[hb] at e
   have:=DO ao ao e
   omega
  ·rw[List.append_nil];exact ih ao
theorem yK(k:Nat):(nTo bits td at_ k).length=at_.length:=by
 induction k with
 |zero=>rfl
 |succ k ih=>unfold nTo;split<;>simp[ih]
theorem E9{k:Nat}(hl:at_.length=5)(hk:k<=5){j:Nat}(hj:j<5):(nTo bits td at_ k)[j]! =if j<k/\oL bits j=true/\td≠at_[j]! then td else at_[j]! :=by
 induction k with
 |zero=>rw[if_neg ao];rfl
 |succ k ih=>
  unfold nTo
  split
  ·rename_i g
   have hlen:=yK (bits:=bits) (td:=td) (at_:=at_) k
   rw[getElem!_pos _ j (by rw[List.length_set];omega),List.getElem_set]
   by_cases e:k=j
   ·subst e;rw[if_pos rfl,if_pos ⟨by omega,g⟩]
   ·rw[if_neg e,←getElem!_pos _ j ao,ih ao]
    by_cases h:oL bits j=true/\td≠at_[j]!
    ·by_cases h2:j<k
     ·rw[if_pos ⟨h2,h⟩,if_pos ⟨by omega,h⟩]
     ·rw[if_neg (λq=>h2 q.1),if_neg (λq=>by have:=q.1;omega)]
    ·rw[if_neg (λq=>h q.2),if_neg (λq=>h q.2)]
  ·rename_i g
   rw[ih ao]
   by_cases h:oL bits j=true/\td≠at_[j]!
   ·by_cases h2:j<k
    ·rw[if_pos ⟨h2,h⟩,if_pos ⟨by omega,h⟩]
    ·have hj: ¬(j<k+1/\oL bits j=true/\td≠at_[j]!):=λq=>by
      obtain rfl:j=k:=by have:=q.1;omega
      exact g h
     rw[if_neg (λq=>h2 q.1),if_neg hj]
   ·rw[if_neg (λq=>h q.2),if_neg (λq=>h q.2)]
theorem ve.ups(h:ve at_ t)(ht:td.length=32)(hne:uTo bits td at_ 5≠ []):lW t (uTo bits td at_ 5):=by
 refine⟨hne,IK (Nat.le_refl _),λu hu=>?_,λu hu=>?_⟩
 ·obtain⟨j,hj,_,h2,rfl⟩:=sY hu
  exact⟨⟨j,hj,rfl⟩,h.id j hj,ht,λe=>h2 e.symm⟩
 ·obtain⟨j,hj,_,h2,rfl⟩:=sY hu
  exact h.get j hj
theorem ve.next(h:ve at_ t)(ht:td.length=32):ve (nTo bits td at_ 5) (eZ t (uTo bits td at_ 5)):=by
 refine⟨by rw[yK];exact h.len,λk hk=>?_,λk hk=>?_⟩
 ·rw[E9 h.len (Nat.le_refl _) hk]
  split
  ·exact .inr ht
  ·exact h.id k hk
 ·rw[E9 h.len (Nat.le_refl _) hk]
  obtain⟨a1,a2⟩:=KS (t:=t) (IK (bits:=bits) (td:=td) (at_:=at_) (Nat.le_refl 5)) (nmR k)
  split
  ·rename_i g
   exact a2 _ (KV g.1 g.2.1 g.2.2) rfl
  ·rename_i g
   rw[a1 λu hu e=>?_,h.get k hk]
   obtain⟨j,hj,h1,h2,rfl⟩:=sY hu
   obtain rfl:=DO hj hk e
   exact g ⟨hk,h1,h2⟩
end
end Go.Proofs.YtebpkhlifcffnaaGreatDoor.Fs
namespace Go.Proofs.YtebpkhlifcffnaaGreatDoor.Fs
open Go Go.SL
def encR(x:Ref):List Value:=[vs x.1,vs x.2]
def bl(x:Upd):List Value:=[vs x.1,vs x.2.1,vs x.2.2]
abbrev pL(rv lv:Value):Value:=.agg #[rv,vs hdM,lv]
abbrev qe(rv lv:Value):List Value:=[rv,vs hdM,lv]
instance (s:Tx):Decidable (wg s):=by unfold wg;infer_instance
theorem xH{n:Nat}(h:n<9223372036854775807):IntKind.i64.wrap ((n/2^1:Nat):Int)=((n/2^1:Nat):Int):=by
 rw[IntKind.wrap_i64];omega
theorem ud: ∀a b:Tx,Lib.compareBytes a b<0↔Lt a b
 | [],[]=>⟨λh=>absurd h ct,λh=>absurd h ct⟩
 | [],b::bs=>⟨λ_=>rfl,λ_=>(by decide:(-1:Int)<0)⟩
 |a::r,[]=>⟨λh=>absurd h (by show ¬(1:Int)<0;decide),λh=>by cases h⟩
 |a::r,b::bs=>by
  have ih:=ud r bs
  rw[Lt.iff] at ih⊢
  show(if a<b then(-1:Int) else if b<a then 1 else Lib.compareBytes r bs)<0↔_
  rw[List.cons_lt_cons_iff]
  by_cases h1:a<b
  ·rw[if_pos h1];exact⟨λ_=>.inl h1,λ_=>by decide⟩
  ·rw[if_neg h1]
   by_cases h2:b<a
   ·rw[if_pos h2]
    refine⟨λh=>absurd h ct,λh=>?_⟩
    rcases h with h|⟨h,_⟩
    ·exact absurd h h1
    ·subst h;exact absurd h2 h1
   ·rw[if_neg h2,ih]
    have e:a=b:=by
     have q1: ¬a.toNat<b.toNat:=λq=>h1 (UInt8.lt_iff_toNat_lt.2 q)
     have q2: ¬b.toNat<a.toNat:=λq=>h2 (UInt8.lt_iff_toNat_lt.2 q)
     exact UInt8.toNat_inj.1 ao
    exact⟨λh=>.inr ⟨e,h⟩,λh=>h.elim (λh=>absurd h h1) (·.2)⟩
theorem pT: ∀a b:Tx,Lib.compareBytes a b=0↔a=b
 | [],[]=>⟨λ_=>rfl,λ_=>rfl⟩
 | [],b::bs=>⟨λh=>absurd h (by show ¬(-1:Int)=0;decide),λh=>by cases h⟩
 |a::r,[]=>⟨λh=>absurd h (by show ¬(1:Int)=0;decide),λh=>by cases h⟩
 |a::r,b::bs=>by
  have ih:=pT r bs
  show(if a<b then(-1:Int) else if b<a then 1 else Lib.compareBytes r bs)=0↔_
  by_cases h1:a<b
  ·rw[if_pos h1]
   exact⟨λh=>absurd h ct,λh=>by injection h with h _;subst h;exact absurd h1 (UInt8.lt_irrefl _)⟩
  ·rw[if_neg h1]
   by_cases h2:b<a
   ·rw[if_pos h2]
    exact⟨λh=>absurd h ct,λh=>by injection h with h _;subst h;exact absurd h2 (UInt8.lt_irrefl _)⟩
   ·rw[if_neg h2,ih]
    have e:a=b:=by
     have q1: ¬a.toNat<b.toNat:=λq=>h1 (UInt8.lt_iff_toNat_lt.2 q)
     have q2: ¬b.toNat<a.toNat:=λq=>h2 (UInt8.lt_iff_toNat_lt.2 q)
     exact UInt8.toNat_inj.1 ao
    rw[e]
    simp
section
variable{R:List RO}{O O':List Own}{POST:Value->List RO->List Own->Prop}
set_option maxRecDepth 20000 in
theorem Eb{s:Tx}(hk:POST (.bool (decide (wg s))) R O):Fun Tryz.prog 187 #[vs s] R O POST:=by
 refine aC (l:=[_]) Tryz.func187 rfl Tryz.ntmps187 rfl (L0:=[(0,_)]) rfl ?_
 refine aD<|ar rfl<|aw ?_
 refine WC.pick [0] eS ?_
 refine WC.val 2 (.bool (decide (wg s))) ?_ ?_
 ·
  refine aB<|af rfl<|ab rfl (lq rfl rfl rfl)<|af rfl<|WL.case 5 rfl (λhg5=>?_) (λhg5=>?_)
  ·
   refine aW rfl<|aW rfl<|aW rfl<|ab rfl (aY rfl rfl rfl)<|ar rfl<|aG ?_
   exact⟨by repeat(first|exact Sub.nil|refine Sub.cons rfl (by first|rfl|(exact pd (.inl hg5))) ?_),by exact(λ_ h=>h.thin (cB.mem cz))⟩
  ·
   refine aT rfl (al rfl rfl)<|aT rfl (cg (ts:=#[]) (ty:=0) rfl rfl Tryz.underlying9) ?_
   refine aT rfl (Rd.eql rfl rfl rfl)<|ab rfl (aQ rfl rfl rfl)<|ar rfl<|aG ?_
   exact⟨by repeat(first|exact Sub.nil|refine Sub.cons rfl (by first|rfl|(exact vb ⟨λh=>.inr ao,λh=>by have:=h.resolve_left hg5;omega⟩)) ?_),by exact(λ_ h=>h.thin (cB.mem cz))⟩
 ·
  refine WC.ret (Ret.one Tryz.results187 rfl ?_)
  exact hk
set_option maxRecDepth 20000 in
theorem sq{u:Upd}(hk:POST (.bool (decide (wg u.2.1/\wg u.2.2/\u.2.1≠u.2.2))) R O):Fun Tryz.prog 134 #[.agg #[vs u.1,vs u.2.1,vs u.2.2]] R O POST:=by
 refine aC (l:=[_]) Tryz.func134 rfl Tryz.ntmps134 rfl (L0:=[(0,_)]) rfl ?_
 refine aD<|aq rfl<|OpW.box rfl rfl ba rfl rfl ?_;intro b1
 refine ar rfl<|aw<|WC.pick [1] eS ?_
 refine WC.val 2 (.bool (decide (wg u.2.1/\wg u.2.2/\u.2.1≠u.2.2))) ?_ ?_
 ·
  refine aB<|ab rfl (by exact ak rfl zQ rfl rfl) ?_
  refine ab rfl (by exact ax rfl C9 rfl aK (by rfl)) ?_
  refine aq rfl<|aj rfl rfl aZ an rfl rfl rfl ?_
  refine Eb ?_
  refine af rfl<|WL.case 6 rfl (λhg6=>?_) (λhg6=>?_)
  ·
   refine aT rfl (by exact ak rfl uo rfl rfl) ?_
   refine aT rfl (by exact ax rfl C9 rfl aK (by rfl)) ?_
   refine WL.c4 rfl rfl rfl rfl<|aj rfl rfl aZ an rfl rfl rfl ?_
   refine Eb ?_
   refine ab rfl (aY rfl rfl rfl)<|af rfl<|WL.case 11 rfl (λhg11=>?_) (λhg11=>?_)
   ·
    refine aT rfl (by exact ak rfl zQ rfl rfl) ?_
    refine aT rfl (by exact ax rfl C9 rfl aK (by rfl)) ?_
    refine aT rfl (by exact ak rfl uo rfl rfl) ?_
    refine aT rfl (by exact ax rfl C9 rfl aK (by rfl)) ?_
    refine aT rfl (fA rfl rfl rfl)<|ab rfl (aY rfl rfl rfl)<|ar rfl<|aG ?_
    exact⟨by repeat(first|exact Sub.nil|refine Sub.cons rfl (by first|rfl|(exact vb ⟨λh=>⟨hg6,hg11,h⟩,λh=>h.2.2⟩)) ?_),by exact(λ_ h=>h.thin (cB.mem cz))⟩
   ·
    refine aW rfl<|aW rfl<|aW rfl<|aW rfl<|aW rfl<|ab rfl (aQ rfl rfl rfl)<|ar rfl<|aG ?_
    exact⟨by repeat(first|exact Sub.nil|refine Sub.cons rfl (by first|rfl|(exact GP (λh=>hg11 h.2.1))) ?_),by exact(λ_ h=>h.thin (cB.mem cz))⟩
  ·
   refine aW rfl<|aW rfl<|aW rfl<|ab rfl (aQ rfl rfl rfl)<|af rfl<|aW rfl<|aW rfl<|aW rfl<|aW rfl<|aW rfl<|ab rfl (aQ rfl rfl rfl)<|ar rfl<|aG ?_
   exact⟨by repeat(first|exact Sub.nil|refine Sub.cons rfl (by first|rfl|(exact GP (λh=>hg6 h.1))) ?_),by exact(λ_ h=>h.thin (cB.mem cz))⟩
 ·
  refine WC.heap (R':=R) (O':=O) bN ?_
  refine WC.ret (Ret.one Tryz.results134 rfl ?_)
  exact hk
set_option maxRecDepth 20000 in
theorem ml{r:Ref}{s:Tx}(hk:POST (.int .i64 (Lib.compareBytes r.1 s)) R O):Fun Tryz.prog 82 #[.agg #[vs r.1,vs r.2],vs s] R O POST:=by
 refine aC (l:=[_,_]) Tryz.func82 rfl Tryz.ntmps82 rfl (L0:=[(0,_),(1,_)]) rfl ?_
 refine aD<|aq rfl<|OpW.box rfl rfl ba rfl rfl ?_;intro b2
 refine ar rfl<|a7<|ab rfl (by exact ak rfl u6 rfl rfl) ?_
 refine ab rfl (by exact ax rfl C9 rfl aK (by rfl)) ?_
 refine af rfl<|aq rfl<|aj rfl rfl aZ an rfl rfl rfl ?_
 refine Fun.still (λw=>Tryz.strings_Compare ⟨r.1.toArray⟩ ⟨s.toArray⟩ w) ?_
 refine ar rfl<|aw<|WC.heap (R':=R) (O':=O) bN ?_
 refine WC.ret (Ret.one Tryz.results82 rfl ?_)
 exact hk
abbrev Qw:Value:=.func (.func 82) #[] #[]
set_option maxRecDepth 20000 in
theorem Rl{t:List Ref}{v:Value}{s:Tx}(hv:SlE encR v t∈R)(hl:t.length<=1000)(ha:Asc (t.map (·.1)))(hk: ∀p,nX t s p->POST (.tuple #[.int .i64 (p:Int),.bool (decide (p<t.length/\t[p]!.1=s))]) R O):
 Fun Tryz.prog 81 #[v,vs s,Qw] R O POST:=by
 refine aC (l:=[_,_,_]) Tryz.func81 rfl Tryz.ntmps81 rfl (L0:=[(0,_),(1,_),(2,_)]) rfl ?_
 refine aD<|ar rfl<|ar rfl<|a7<|af rfl<|ab rfl (by exact bu rfl rfl Tryz.underlying46 aK) ?_
 refine ar rfl<|a7<|af rfl<|ar rfl<|ar rfl<|aw<|aF<|WC.block ?_
 refine WC.pick [9,10,0,1,2,8] eS ?_
 refine xO 2 (λ(i:Nat) (j:Nat)=>[(9,.int .i64 (i:Int)),(10,.int .i64 (j:Int))]) (λ(i:Nat) (j:Nat)=>i<=j/\j<=t.length/\(∀x,x<i->Lt t[x]!.1 s)/\ ∀x,j<=x->x<t.length-> ¬Lt t[x]!.1 s) (λ(i:Nat) (j:Nat)=>j-i) (0) (t.length) iw ?hinv1 cC (λ_ h=>h) ?_
 case hinv1=>
  exact⟨Nat.zero_le _,Nat.le_refl _,λx h=>absurd h (Nat.not_lt_zero _),λx h1 h2=>by omega⟩
 intro i j
 rintro⟨i1,i2,i3,i4⟩
 refine bd<|af rfl<|af rfl<|ab rfl (Rd.lss rfl rfl rfl)<|aw ?_
 refine aE rfl (λhc1=>?_) (λhc1=>?_)
 ·
  obtain⟨h,hh⟩: ∃h,h=(i+j)/2:=⟨_,rfl⟩
  have hb1:i<=h/\h<j:=by omega
  refine ay<|aa<|WC.block ?_
  refine aD<|af rfl<|af rfl<|ab rfl (Rd.add rfl rfl rfl ao) ?_
  refine ab rfl (ck rfl rfl Tryz.underlying71 (wrap_u64 ao) (hS:=Tryz.underlying3)) ?_
  refine aU 21 (u:=.int .u64 ((i+j:Nat):Int)) rfl (by push_cast;rfl) ?_
  refine ab rfl (cu (n:=1) rfl rfl rfl rfl rfl ct) ?_
  refine ab rfl (ck rfl rfl Tryz.underlying3 (xH ao) (hS:=Tryz.underlying71)) ?_
  refine aU 23 (u:=.int .i64 (h:Int)) rfl (by rw[hh]) ?_
  refine ar rfl<|a7<|af rfl<|af rfl<|af rfl<|ab rfl (by exact dy (k:=h) rfl S46 rfl rfl ao aK ao) ?_
  refine ab rfl (dM (k:=h) (a:=t[h]!) (cs:=encR t[h]!) (enc:=encR) (xs:=t) rfl zx rfl aK (λ_=>rfl) (get!_of_lt ao) ba) ?_
  refine af rfl<|aq rfl<|aj rfl rfl aZ an rfl rfl rfl ?_
  refine ml (r:=t[h]!) ?_
  refine ab rfl (Rd.lss rfl rfl rfl)<|aw<|aE rfl (λhc2=>?_) (λhc2=>?_)
  ·
   refine aB<|af rfl<|ab rfl (Rd.add rfl rfl rfl ao) ?_
   exact ar rfl<|aG<|aA<|bC.mk (h+1) j ⟨by omega,i2,λx hx=>IP ha ao ((ud _ _).1 hc2) ao,i4⟩ ao cC bN
  ·
   exact aB<|af rfl<|ar rfl<|aG<|aA<|bC.mk i h ⟨by omega,by omega,i3,λx h1 h2=>ID ha (λq=>hc2 ((ud _ _).2 q)) h1 h2⟩ ao cC bN
 ·
  obtain rfl:i=j:=by omega
  have hp:nX t s i:=⟨i2,i3,i4⟩
  refine WC.exit<|au.exit<|bC.exit<|aH.exit<|aa<|aD<|af rfl<|af rfl<|af rfl<|ab rfl (Rd.lss rfl rfl rfl)<|af rfl ?_
  refine WL.case 39 rfl (λhg39=>?_) (λhg39=>?_)
  ·
   refine aT rfl (al rfl rfl)<|aT rfl (al rfl rfl)<|aT rfl (al rfl rfl)<|aT rfl (by exact dy (k:=i) rfl S46 rfl rfl ao aK ao) ?_
   refine aT rfl (dM (k:=i) (a:=t[i]!) (cs:=encR t[i]!) (enc:=encR) (xs:=t) rfl zx rfl aK (λ_=>rfl) (get!_of_lt ao) ba) ?_
   refine aT rfl (al rfl rfl)<|WL.c4 rfl rfl rfl rfl<|aj rfl rfl aZ an rfl rfl rfl ?_
   refine ml (r:=t[i]!) ?_
   refine aT rfl (Rd.eql rfl rfl rfl)<|ab rfl (aY rfl rfl rfl)<|aU 48 (u:=.bool (decide (i<t.length/\t[i]!.1=s))) rfl (by exact vb ⟨λh=>⟨by omega,(pT _ _).1 h⟩,λh=>(pT _ _).2 h.2⟩) ?_
   refine ar rfl<|ar rfl<|aw<|WC.ret (Ret.two Tryz.results81 rfl rfl ?_)
   exact hk i hp
  ·
   refine aW rfl<|aW rfl<|aW rfl<|aW rfl<|aW rfl<|aW rfl<|aW rfl<|aW rfl<|ab rfl (aQ rfl rfl rfl)<|aU 48 (u:=.bool (decide (i<t.length/\t[i]!.1=s))) rfl (by exact GP (λh=>by omega)) ?_
   refine ar rfl<|ar rfl<|aw<|WC.ret (Ret.two Tryz.results81 rfl rfl ?_)
   exact hk i hp
set_option maxRecDepth 20000 in
theorem RR{t:List Ref}{v:Value}{s:Tx}(hv:bt 101 2 encR v t∈O)(hl:t.length<=1000)(ha:Asc (t.map (·.1)))(hk: ∀p,nX t s p->POST (.tuple #[.int .i64 (p:Int),.bool (decide (p<t.length/\t[p]!.1=s))]) R O):
 Fun Tryz.prog 81 #[v,vs s,Qw] R O POST:=by
 refine aC (l:=[_,_,_]) Tryz.func81 rfl Tryz.ntmps81 rfl (L0:=[(0,_),(1,_),(2,_)]) rfl ?_
 refine aD<|ar rfl<|ar rfl<|a7<|af rfl<|ab rfl (by exact fB rfl rfl Tryz.underlying46 aK) ?_
 refine ar rfl<|a7<|af rfl<|ar rfl<|ar rfl<|aw<|aF<|WC.block ?_
 refine WC.pick [9,10,0,1,2,8] eS ?_
 refine xO 2 (λ(i:Nat) (j:Nat)=>[(9,.int .i64 (i:Int)),(10,.int .i64 (j:Int))]) (λ(i:Nat) (j:Nat)=>i<=j/\j<=t.length/\(∀x,x<i->Lt t[x]!.1 s)/\ ∀x,j<=x->x<t.length-> ¬Lt t[x]!.1 s) (λ(i:Nat) (j:Nat)=>j-i) (0) (t.length) iw ?hinv1 cC (λ_ h=>h) ?_
 case hinv1=>
  exact⟨Nat.zero_le _,Nat.le_refl _,λx h=>absurd h (Nat.not_lt_zero _),λx h1 h2=>by omega⟩
 intro i j
 rintro⟨i1,i2,i3,i4⟩
 refine bd<|af rfl<|af rfl<|ab rfl (Rd.lss rfl rfl rfl)<|aw ?_
 refine aE rfl (λhc1=>?_) (λhc1=>?_)
 ·
  obtain⟨h,hh⟩: ∃h,h=(i+j)/2:=⟨_,rfl⟩
  have hb1:i<=h/\h<j:=by omega
  refine ay<|aa<|WC.block ?_
  refine aD<|af rfl<|af rfl<|ab rfl (Rd.add rfl rfl rfl ao) ?_
  refine ab rfl (ck rfl rfl Tryz.underlying71 (wrap_u64 ao) (hS:=Tryz.underlying3)) ?_
  refine aU 21 (u:=.int .u64 ((i+j:Nat):Int)) rfl (by push_cast;rfl) ?_
  refine ab rfl (cu (n:=1) rfl rfl rfl rfl rfl ct) ?_
  refine ab rfl (ck rfl rfl Tryz.underlying3 (xH ao) (hS:=Tryz.underlying71)) ?_
  refine aU 23 (u:=.int .i64 (h:Int)) rfl (by rw[hh]) ?_
  refine ar rfl<|a7<|af rfl<|af rfl<|af rfl<|ab rfl (by exact mP (k:=h) rfl S46 rfl rfl ao aK ao) ?_
  refine ab rfl (qF (k:=h) (a:=t[h]!) (cs:=encR t[h]!) (enc:=encR) (xs:=t) rfl zx rfl aK (λ_=>rfl) (get!_of_lt ao) ba) ?_
  refine af rfl<|aq rfl<|aj rfl rfl aZ an rfl rfl rfl ?_
  refine ml (r:=t[h]!) ?_
  refine ab rfl (Rd.lss rfl rfl rfl)<|aw<|aE rfl (λhc2=>?_) (λhc2=>?_)
  ·
   refine aB<|af rfl<|ab rfl (Rd.add rfl rfl rfl ao) ?_
   exact ar rfl<|aG<|aA<|bC.mk (h+1) j ⟨by omega,i2,λx hx=>IP ha ao ((ud _ _).1 hc2) ao,i4⟩ ao cC bN
  ·
   exact aB<|af rfl<|ar rfl<|aG<|aA<|bC.mk i h ⟨by omega,by omega,i3,λx h1 h2=>ID ha (λq=>hc2 ((ud _ _).2 q)) h1 h2⟩ ao cC bN
 ·
  obtain rfl:i=j:=by omega
  have hp:nX t s i:=⟨i2,i3,i4⟩
  refine WC.exit<|au.exit<|bC.exit<|aH.exit<|aa<|aD<|af rfl<|af rfl<|af rfl<|ab rfl (Rd.lss rfl rfl rfl)<|af rfl ?_
  refine WL.case 39 rfl (λhg39=>?_) (λhg39=>?_)
  ·
   refine aT rfl (al rfl rfl)<|aT rfl (al rfl rfl)<|aT rfl (al rfl rfl)<|aT rfl (by exact mP (k:=i) rfl S46 rfl rfl ao aK ao) ?_
   refine aT rfl (qF (k:=i) (a:=t[i]!) (cs:=encR t[i]!) (enc:=encR) (xs:=t) rfl zx rfl aK (λ_=>rfl) (get!_of_lt ao) ba) ?_
   refine aT rfl (al rfl rfl)<|WL.c4 rfl rfl rfl rfl<|aj rfl rfl aZ an rfl rfl rfl ?_
   refine ml (r:=t[i]!) ?_
   refine aT rfl (Rd.eql rfl rfl rfl)<|ab rfl (aY rfl rfl rfl)<|aU 48 (u:=.bool (decide (i<t.length/\t[i]!.1=s))) rfl (by exact vb ⟨λh=>⟨by omega,(pT _ _).1 h⟩,λh=>(pT _ _).2 h.2⟩) ?_
   refine ar rfl<|ar rfl<|aw<|WC.ret (Ret.two Tryz.results81 rfl rfl ?_)
   exact hk i hp
  ·
   refine aW rfl<|aW rfl<|aW rfl<|aW rfl<|aW rfl<|aW rfl<|aW rfl<|aW rfl<|ab rfl (aQ rfl rfl rfl)<|aU 48 (u:=.bool (decide (i<t.length/\t[i]!.1=s))) rfl (by exact GP (λh=>by omega)) ?_
   refine ar rfl<|ar rfl<|aw<|WC.ret (Ret.two Tryz.results81 rfl rfl ?_)
   exact hk i hp
end
end Go.Proofs.YtebpkhlifcffnaaGreatDoor.Fs
namespace Go.SL
open Go
section
variable{P:Program}{n:Sz}{o:Oper}{L:Env}{R:List RO}{O O':List Own}{K:Env->List RO->List Own->Prop}{t t' e:TypeId}{x y:Operand}{z:Value}{bytes size:Nat}{α:Type}{enc:α->List Value}{xs:List α}{v:Value}
theorem Nr{c:Code}{Q:cT}{p:Prop}(h: ∀w,Sat R O w->p)(k:p->WC P n c Q L R O):WC P n c Q L R O:=λa w hf hs=>k (h w hs) a w hf hs
theorem zB{k:Nat}{c:Own}(hk:k∈c.il): ∀{O:List Own},c∈O->k∈owned O
 | [],h=>by cases h
 |d::r,h=>by
  simp only[owned,List.mem_append]
  rcases List.mem_cons.1 h with rfl|h
  ·exact .inl hk
  ·exact .inr (zB hk h)
theorem wo{b g:Nat}{e1 e2:TypeId}{c1 c2:List Value}{w:World}(hT:Take (az b e1 c1) O O')(h2:az g e2 c2∈O')(h:Sat R O w):b≠g:=λe=>by
 have h1:=(h.perm hT.perm).nodup
 simp only[owned,az,List.nodup_append,List.mem_singleton] at h1
 exact h1.2.2 b rfl g (zB (c:=az g e2 c2) List.mem_cons_self h2) e
theorem vS{c:Code}{Q:cT}(hT:Take (bt e size enc v xs) O O')(h0:0<xs.length)
 (k: ∀g cap cur,v= .slice (some ⟨g,0,none⟩) xs.length cap->xs.length<=cap->cap<=maxLen->cur.length=cap*size->cur.take (xs.length*size)=xs.flatMap enc->WC P n c Q L R (az g e cur::O')):WC P n c Q L R O:=by
 intro a w hf hs
 have hs':=hs.perm hT.perm
 have hp:w.ownsRow 0 e size v xs.length (xs.flatMap enc):=hs'.see List.mem_cons_self
 rcases hp.2 with⟨_,h⟩|⟨g,cap,cur,rfl,_,hg,hnc,hcm,hsz,htk⟩
 ·omega
 ·refine k g cap cur.toList rfl hnc hcm (by simpa using hsz) htk a w hf ?_
  refine hs'.update (w':=w) _ (dA.refl _ _) (λj hj=>?_) (λj hj=>?_) (by simp[az]) (λw'' ha _=>?_)
  ·left;simpa [az,bt,Value.ownBlock] using hj
  ·simp only[az,List.mem_singleton] at hj;subst hj;exact(Array.getElem?_eq_some_iff.1 hg).1
  ·show w''.heap[g]? =some (.cells cur.toList.toArray e (0,0))
   rw[ha.2.2.2.2 g (Array.getElem?_eq_some_iff.1 hg).1 (by simp[az])]
   simpa using hg
theorem mV{g cap:Nat}{cur:List Value}{w:World}(hT:Take (az g e cur) O O')(hs: ∀x,(enc x).length=size)(hnc:xs.length<=cap)(hcm:cap<=maxLen)(hl:cur.length=cap*size)(ht:cur.take (xs.length*size)=xs.flatMap enc)(h:Sat R O w):Sat R (bt e size enc (.slice (some ⟨g,0,none⟩) xs.length cap) xs::O') w:=
 (h.perm hT.perm).tJ _ rfl (λw hp _=>⟨dv hs xs,.inr ⟨g,cap,cur.toArray,rfl,Nat.zero_le _,hp,hnc,hcm,by simpa using hl,by simpa using ht⟩⟩)
theorem vY(w:World)(dT sT ty elem:TypeId)(g o dLen dCap:Nat)(a:Addr)(sLen sCap size:Nat)(cur:Array Value)(t:TypeId)(cs:List Value)
 (hu:P.underlying dT=some (.slice elem)) (hs:(P.info? elem).map (·.size)=some size)
 (hg:w.heap[g]? =some (.cells cur t (0,0))) (hn:cs.length=Nat.min sLen dLen*size)
 (hsrc: ∀j v,cs[j]? =some v->w.cell? (a.add j)=some v) (hfit:o+cs.length<=cur.size) (h1: ∀v∈cs,v.oneCell'=true):
 (Builtin.copy_ #[dT,sT] ty #[.slice (some ⟨g,o,none⟩) dLen dCap,.slice (some a) sLen sCap]).run P w=
   .ok (goInt (Nat.min sLen dLen)) (w.setRow g (cur.toList.take o++cs++cur.toList.drop (o+cs.length)).toArray):=by
 have hl:=run_loadCells_list (P:=P) w a cs hsrc
 have hst:=run_storeCells_at P g o t cs 0 cur w hg (by simpa using hfit) h1
 cases hq:P.info? elem with
 |none=>simp[hq] at hs
 |some i=>
  have hi:i.size=size:=by simpa [hq] using hs
  simp[Builtin.copy_,run_underlying hu,Builtin.lenOf,Builtin.firstCells,sizeOf,typeInfo,hq,hi,←hn,hl,hst]
theorem OpW.p4{b off dLen dCap sLen sCap d m:Nat}{a:Addr}{cur cs:List Value}(ho:o.op= .call {callee:=.builtin .copy,args:=#[x,y],argTypes:=#[t,t']})(hT:SlT P t e size bytes z)
 (hx:ev L x=some (.slice (some ⟨b,off,none⟩) dLen dCap)) (hy:ev L y=some (.slice (some a) sLen sCap)) (hO:Take (az b e cur) O O') (hm:Nat.min sLen dLen=m) (hcs:cs.length=m*size)
 (hsrc: ∀w,(∀p∈R,p w)->(∀c∈O,c.pred w)-> ∀j v,cs[j]? =some v->w.cell? (a.add j)=some v) (hfit:off+cs.length<=cur.length) (h1: ∀v∈cs,v.oneCell'=true) (hd:o.dst=some d) (hn:Nat.blt d n.n=true)
 (k:K ((d,.int .i64 (m:Nat))::L) R (az b e (cur.take off++cs++cur.drop (off+cs.length))::O')):OpW P n o L R O K:=by
 intro ac w hf hs Q
 have hs':=hs.perm hO.perm
 have hp:w.heap[b]? =some (.cells cur.toArray e (0,0)):=hs'.see List.mem_cons_self
 obtain⟨i,hi,_,hsize,_⟩:=hT.info
 have hrun:=vY (P:=P) w t t' o.type e b off dLen dCap a sLen sCap size cur.toArray e cs hT.under (by rw[hi];simp[hsize]) hp (by rw[hm];exact hcs) (hsrc w (λp hp=>hs.read hp) (λc hc=>hs.see hc)) (by simpa using hfit) h1
 rw[hm] at hrun
 have hr:(execOp ac.eval o).run P w= .ok (.value (goInt m)) (w.setRow b (cur.take off++cs++cur.drop (off+cs.length)).toArray):=by
  simp only[execOp,ho,resolve,invoke,builtin,hf.ev hx,hf.ev hy,Sem.run_bind,Sem.run_pure,Result.andThen_ok,List.map_toArray,List.map_cons,List.map_nil,hrun]
 unfold Oper.wp
 rw[hr,Oper.upon_value,hd]
 have hb:b<w.heap.size:=(Array.getElem?_eq_some_iff.1 hp).1
 refine⟨_,_,_,k,hf.put hn _,hs'.update _ ⟨rfl,rfl,rfl,by simp,λj hj hne=>setRow_other w b j _ (λe'=>hne (by simp[az,e']))⟩ (λj hj=>.inl hj) (λj hj=>by simp only[az,List.mem_singleton] at hj;subst hj;simpa using hb) (by simp[az]) (λw'' ha _=>?_)⟩
 show w''.heap[b]? =_
 rw[ha.2.2.2.2 b (by simpa using hb) (by simp[az])]
 exact setRow_heap w b _ _ e _ hp
theorem OpW.GC{d m c j b:Nat}{cur:List Value}{kd kn:IntKind}{p:Int}(ho:o.op= .call {callee:=.builtin .append,args:=#[x,y],argTypes:=#[t,t']})(hT:SlT P t e size bytes z)(ht':P.underlying t'=some (.int kn))
 (hx:ev L x=some (.slice (some ⟨b,0,none⟩) m c)) (hy:ev L y=some (.int kd p)) (hp:p=(j:Int)) (hO:az b e cur∈O) (hm:m*size<=cur.length) (h0:0<j) (hg:c<m+j) (hroom:zG (m+j) bytes) (hd:o.dst=some d) (hn:Nat.blt d n.n=true)
 (k: ∀b' c' zs,m+j<=c'->c'<=maxLen->zs.length=(c'-m)*size->K ((d,.slice (some ⟨b',0,none⟩) (m+j) c')::L) R (az b' e (cur.take (m*size)++zs)::O)):OpW P n o L R O K:=by
 intro ac w hf hs Q
 obtain⟨i,hi,hz0,hsize,hby⟩:=hT.info
 subst hby;subst hp;subst hsize
 have hb:w.heap[b]? =some (.cells cur.toArray e (0,0)):=hs.see hO
 have hold:(Builtin.firstCells i.size m (.slice (some ⟨b,0,none⟩) m c)).run P w.drew= .ok (cur.take (m*i.size)).toArray w.drew:=by
  refine run_firstCells_some w.drew i.size m ⟨b,0,none⟩ m c (cur.take (m*i.size)) (by rw[List.length_take];omega) λq u hq=>?_
  have hb':w.drew.heap[b]? =some (.cells cur.toArray e (0,0)):=hb
  have hq2:cur[q]? =some u:=by
   have hlt:=(List.getElem?_eq_some_iff.1 hq).1
   rw[List.length_take] at hlt
   rwa [List.getElem?_take_of_lt ao] at hq
  have:=cy (b:=b) (e:=e) (w:=w.drew) hb' hq2
  rw[cr rfl,Nat.zero_add]
  exact this
 have hpos:=hT.pos
 have hr1:=hroom.1
 have hr2:=hroom.2
 have hj48:j*i.bytes<=(m+j)*i.bytes:=Nat.mul_le_mul_right _ ao
 have hr:=Lib.run_append_grow_zeros (P:=P) w t t' o.type e i z kd kn hT.under ht' hi hz0 (some ⟨b,0,none⟩) m c _ hold j h0 hpos hg (by simp only[maxLen] at hr1;omega) ao (growslice_fits ao hr2)
 have hr':(execOp ac.eval o).run P w= .ok (.value (.slice (some ⟨w.heap.size,0,none⟩) (m+j) (grownCap w (m+j) c e))) (w.drew.alloc (.cells ((cur.take (m*i.size)).toArray++Builtin.zeroCells z.cells j++Builtin.zeroCells z.cells (grownCap w (m+j) c e-(m+j))) e)):=by
  simp only[execOp,ho,resolve,invoke,builtin,hf.ev hx,hf.ev hy,Sem.run_bind,Sem.run_pure,Result.andThen_ok,List.map_toArray,List.map_cons,List.map_nil,hr]
 unfold Oper.wp
 rw[hr',Oper.upon_value,hd]
 have hge:=grownCap_ge w (m+j) c e
 refine⟨_,_,_,k w.heap.size (grownCap w (m+j) c e) (Builtin.zeroCells z.cells j++Builtin.zeroCells z.cells (grownCap w (m+j) c e-(m+j))).toList hge (grownCap_le_maxLen w (m+j) c e hroom.1) ?_,hf.put hn _,(hs.drew _).alloc _ _ rfl (λw'' h _=>?_)⟩
 ·simp only[Array.length_toList,Array.size_append,size_zeroCells,hT.pM]
  rw[←Nat.add_mul]
  congr 1
  omega
 ·show w''.heap[_]? =_
  rw[h]
  simp
def A6(v:Value)(size lo hi:Nat):Value:=match v with
 | .slice o _ _=>.slice (o.map (·.add (lo*size))) (hi-lo) (hi-lo)
 |v=>v
theorem SlE.OY{w:World}(hs: ∀x,(enc x).length=size){lo hi:Nat}(h1:lo<hi)(h2:hi<=xs.length)(h:SlE enc v xs w):SlE enc (A6 v size lo hi) ((xs.take hi).drop lo) w:=by
 have h3:=SlE.sub hs (Nat.le_of_lt h1) h2 h
 obtain⟨o',c,rfl,hc,hm,_,_⟩:=h
 obtain⟨o2,c2,e,_,hm2,hn2,ha2⟩:=h3
 have hl:((xs.take hi).drop lo).length=hi-lo:=by simp[Nat.min_eq_left h2]
 simp only[dW,if_neg (show ¬c=lo by omega),Value.slice.injEq] at e
 obtain⟨e1,_,_⟩:=e
 refine⟨o'.map (·.add (lo*size)),hi-lo,by simp[A6,hl],by omega,by omega,λhno=>hn2 (by rw[←e1];exact hno),λa hae=>ha2 a (by rw[←e1];exact hae)⟩
theorem Rd.OY{a b c:Operand}{kl kh km:IntKind}{p q r:Int}{lo hi:Nat}(ho:o.op= .slice t x (some a) (some b) (some c))(hT:SlT P t e size bytes z)(hx:ev L x=some v)(ha:ev L a=some (.int kl p))(hb:ev L b=some (.int kh q))(hc:ev L c=some (.int km r))(hp:p=(lo:Int))(hq:q=(hi:Int))(hr:r=(hi:Int))(hR:SlE enc v xs∈R)(h1:lo<hi)(h2:hi<=xs.length):Rd P o L R O (A6 v size lo hi):=λρ w hρ hRR _=>by
 obtain⟨o',c',rfl,hcc,_⟩:=hRR _ hR
 have b1:=iC (P:=P) (k:=km) (y:=c') (code:=.slice3Acap) hr (Nat.le_trans h2 hcc) w
 have b2:=iC (P:=P) (k:=kh) (y:=hi) (code:=.slice3B) hq (Nat.le_refl hi) w
 have b3:=iC (P:=P) (k:=kl) (y:=hi) (code:=.slice3C) hp (Nat.le_of_lt h1) w
 simp only[execOp,ho,hρ _ _ hx,hρ _ _ ha,hρ _ _ hb,hρ _ _ hc,Option.map_some,Sem.run_bind,Sem.run_pure,Instr.sliceAt,run_underlying hT.under,Result.andThen_ok,Instr.slice,Instr.sliceBounds,if_true,b1,b2,b3,Option.isSome_some,hT.sizeOf,A6]
 rw[if_neg ao]
theorem Ns{ad:Option Addr}{m cp:Nat}(ho:o.op= .call {callee:=.builtin .cap,args:=#[x],argTypes:=#[t]})(hx:ev L x=some (.slice ad m cp))(hT:P.underlying t=some (.slice e)):Rd P o L R O (.int .i64 cp):=λρ w hρ _ _=>by
 simp[execOp,ho,resolve,invoke,builtin,hρ _ _ hx,Builtin.cap_,run_underlying hT,goInt]
theorem kf{b m c sz lo:Nat}(h:c≠lo):dW (.slice (some ⟨b,0,none⟩) m c) sz lo m= .slice (some ⟨b,lo*sz,none⟩) (m-lo) (c-lo):=by
 simp[dW,h,cr]
theorem Dw{f:FuncId}{fn:Func}{ef:Array Value->Sem Value}{xs:List Operand}{azs:List Value}{ts:Array TypeId}{r:Value}(ho:o.op= .call {callee:=.value x,args:=xs.toArray,argTypes:=ts})
 (hx:ev L x=some (.func (.func f) #[] #[])) (has:Evs L xs azs) (hf:P.funcs[f]? =some fn) (hname:(fn.name== "runtime.NumGoroutine")=false) (hb:fn.body.isNone=true) (hn:Extern.findNext fn=none) (he:Extern.find fn=some ef)
 (hr: ∀w,(∀c∈O,c.pred w)->(ef azs.toArray).run P w= .ok r w):Rd P o L R O r:=λρ w hρ _ hO=>by
 have e2:=has.eval (ρ:=ρ) hρ
 have e3:=run_callFunc_extern hf hname hb hn he azs.toArray w
 rw[hr w hO,Result.andThen_ok] at e3
 simp[execOp,ho,resolve,hρ _ _ hx,Deferred.ofValue,List.map_toArray,e2,invoke,e3]
theorem z6{b1 b2 o1 o2 l1 k1 l2 k2:Nat}{e1 e2 tR:TypeId}{c1 c2:List Value}(hT:SlT P t e size bytes z)(h1:az b1 e1 c1∈O)(h2:az b2 e2 c2∈O)(hne:b1≠b2)(h0:c2≠ []){w:World}(hO: ∀c∈O,c.pred w):
 (Extern.SlicesOverlaps.overlaps #[t,t] #[tR] #[.slice (some ⟨b1,o1,none⟩) l1 k1,.slice (some ⟨b2,o2,none⟩) l2 k2]).run P w= .ok (.bool false) w:=by
 have g1:w.heap[b1]? =some (.cells c1.toArray e1 (0,0)):=hO _ h1
 have g2:w.heap[b2]? =some (.cells c2.toArray e2 (0,0)):=hO _ h2
 exact Lib.run_overlaps_apart (P:=P) w t tR e hT.under size hT.sizeOf ⟨b1,o1,none⟩ ⟨b2,o2,none⟩ l1 k1 l2 k2 hne e1 e2 c1.length c2.length (by simp[World.shape?,g1]) (by simp[World.shape?,g2]) (λh=>h0 (List.length_eq_zero_iff.1 h)) (by simp[World.frozen?,g1]) (by simp[World.frozen?,g1])
end
end Go.SL
namespace Go.SL
open Go Go.RowKit
section ret
variable{P:Program}{fn:Func}{n:Sz}{L:Env}{R:List RO}{O:List Own}{post:Value->List RO->List Own->Prop}
theorem dX{p t:Tmp}{ty:TypeId}{size b:Nat}{e:TypeId}{cs:List Value}{v:Value}(hr:fn.results=#[.cell p ty,.tmp t])(ht:Env.find L p=some (.pointer (some ⟨b,0,none⟩)))(h2:Env.find L t=some v)(hp:az b e cs∈O)(hG:Agg P ty size)(hl:cs.length=size)(h:post (.tuple #[.agg cs.toArray,v]) R O):sG P fn n post .ret L R O:=
 ⟨_,λa w _ hf ⟨_,hs⟩=>by
   have e1:=eJ hf ht
   have e3:=eJ hf h2
   have e2:=jK hG hl (hs.see (List.mem_append_right _ hp))
   simp only[Array.getD_eq_getD_getElem?] at e1 e3
   simp[results,hr,e1,e3,asAddr,e2],h⟩
end ret
section
variable{P:Program}{o:Oper}{L:Env}{R:List RO}{O:List Own}{t t':TypeId}{x y:Operand}{s r:List UInt8}
theorem Nt(ho:o.op= .binOp .geq t x y t')(hx:ev L x=some (vs s))(hy:ev L y=some (vs r)):Rd P o L R O (.bool (!Op.bytesLess s r)):=
 lZ ho hx hy λw=>by simp[binOp,Op.stringOp]
end
end Go.SL
namespace Go.SL
open Go Go.RowKit
theorem kU{P:Program}{fn:Func}{n:Sz}{L:Env}{R:List RO}{O:List Own}{post:Value->List RO->List Own->Prop}{p t q:Tmp}{ty:TypeId}{size b:Nat}{e:TypeId}{cs:List Value}{v u:Value}(hr:fn.results=#[.tmp q,.cell p ty,.tmp t])(hq:Env.find L q=some u)(ht:Env.find L p=some (.pointer (some ⟨b,0,none⟩)))(h2:Env.find L t=some v)(hp:az b e cs∈O)(hG:Agg P ty size)(hl:cs.length=size)
 (h:post (.tuple #[u,.agg cs.toArray,v]) R O):sG P fn n post .ret L R O:=
 ⟨_,λa w _ hf ⟨_,hs⟩=>by
   have e0:=eJ hf hq
   have e1:=eJ hf ht
   have e3:=eJ hf h2
   have e2:=jK hG hl (hs.see (List.mem_append_right _ hp))
   simp only[Array.getD_eq_getD_getElem?] at e0 e1 e3
   simp[results,hr,e0,e1,e3,asAddr,e2],h⟩
theorem bp{P:Program}{f:FuncId}{args:Array Value}{R:List RO}{O:List Own}{POST:Value->List RO->List Own->Prop}(h:Fun P f args R O (λv R' O'=> ∃R2 O2,POST v R2 O2/\ ∀w,Sat R' O' w->Sat R2 O2 w)):Fun P f args R O POST:=
 λw hs=>(h w hs).mono λ_ _ ⟨v,_,_,he,⟨R2,O2,hp,hS⟩,hs'⟩=>⟨v,R2,O2,he,hp,hS _ hs'⟩
end Go.SL
namespace Go.Proofs.YtebpkhlifcffnaaGreatDoor.Fs
open Go Go.SL
def cW(x:Ext):List Value:=[.int .i64 (x.1:Int),.int .i64 (x.2:Int)]
abbrev spV(n:Nat)(f:Nat->Bool):Value:=.agg #[.int .i64 (n:Int),vs (spB n f)]
abbrev dD(n:Nat)(f:Nat->Bool):List Value:=[.int .i64 (n:Int),vs (spB n f)]
abbrev jQ:Nat->Bool:=λ_=>false
theorem z7(n:Nat):spB n jQ=List.replicate ((n+7)/8) 0:=by
 refine List.ext_getElem (by rw[fU,List.length_replicate]) (λj h1 h2=>?_)
 simp[spB,spY,spN,pk,b2n,jQ]
theorem Jf(b:Bool):Value.bool (decide ((b2n b:Int)=1))=vbl b:=by cases b<;>rfl
theorem E2(f:Nat->Bool)(i:Nat):(spN f (i/8)/2^(i%8)) &&& 1=b2n (f i):=by rw[Nat.and_one_is_mod,Oh]
section
variable{R:List RO}{O:List Own}{POST:Value->List RO->List Own->Prop}{n:Nat}{f:Nat->Bool}
set_option maxRecDepth 20000 in
theorem u9(hn:n<=4096)(hk:POST (.tuple #[spV n jQ,.int .i64 0]) R O):Fun Tryz.prog 56 #[.int .i64 (n:Int)] R O POST:=by
 refine bp<|aC (l:=[_]) Tryz.func56 rfl Tryz.ntmps56 rfl (L0:=[(0,_)]) rfl ?_
 refine aD<|aq rfl<|OpW.alloc rfl I75 rfl ba rfl rfl ?_;intro b2
 refine ar rfl<|aw<|aF<|WC.pick [0,2] eS ?_
 refine WC.val 9 (.bool (decide ((n:Int)<0∨4096<(n:Int)))) ?_ ?_
 ·
  refine aB<|af rfl<|ab rfl (Rd.lss rfl rfl rfl)<|af rfl<|WL.case 6 rfl (λhg6=>?_) (λhg6=>?_)
  ·
   refine aW rfl<|aW rfl<|ab rfl (aY rfl rfl rfl)<|aG ?_
   exact⟨by repeat(first|exact Sub.nil|refine Sub.cons rfl (by first|rfl|(exact pd ao)) ?_),by exact(λ_ h=>h.thin (cB.mem cz))⟩
  ·
   refine aT rfl (al rfl rfl)<|aT rfl (Rd.gtr rfl rfl rfl)<|ab rfl (aQ rfl rfl rfl)<|aG ?_
   exact⟨by repeat(first|exact Sub.nil|refine Sub.cons rfl (by first|rfl|(exact vb ao)) ?_),by exact(λ_ h=>h.thin (cB.mem cz))⟩
 ·
  refine aE rfl (λhc1=>?_) (λhc1=>?_)
  ·
   omega
  ·
   refine ay<|aa<|aD<|af rfl<|af rfl<|ab rfl (Rd.add rfl rfl rfl ao) ?_
   refine ab rfl (mO (a:=n+7) (b:=8) rfl rfl rfl ao rfl ao ao) ?_
   refine aq rfl<|kc (z0:=vy 0) (m:=(n+7)/8) (c:=(n+7)/8) rfl S41 rfl rfl rfl rfl rfl ao ao ao rfl rfl ?_;intro b15
   refine ab rfl (bY (bs:=spB n jQ) rfl Tryz.underlying41 Tryz.underlying9 Tryz.underlying5 rfl aK (by rw[z7,List.map_replicate]) (fU n jQ) ao) ?_
   refine ab rfl (bO (ps:=[(0,_),(1,_)]) rfl RZ I75 rfl aZ fy (by apply NFo.mk;repeat(first|exact NF.nil|apply NF.cons))) ?_
   refine aq rfl<|aM rfl G75 rfl rfl ba bh rfl rfl ba rfl ?_
   refine ar rfl<|aw<|WC.ret (dX Tryz.results56 rfl rfl aK G75 rfl ?_)
   exact⟨_,_,hk,bN⟩
set_option maxRecDepth 20000 in
theorem BO{i:Nat}(hi:i<n)(hn:n<=4096)(hk:POST (vbl (f i)) R O):Fun Tryz.prog 178 #[spV n f,.int .i64 (i:Int)] R O POST:=by
 have hj:i/8<(n+7)/8:=by omega
 refine bp<|aC (l:=[_,_]) Tryz.func178 rfl Tryz.ntmps178 rfl (L0:=[(0,_),(1,_)]) rfl ?_
 refine aD<|aq rfl<|OpW.box rfl rfl ba rfl rfl ?_;intro b2
 refine ar rfl<|a7<|af rfl<|ab rfl (Rd.geq rfl rfl rfl)<|af rfl<|WL.case 7 rfl (λhg7=>?_) (λhg7=>?_)
 ·
  refine aT rfl (al rfl rfl)<|aT rfl (by exact ak rfl wP rfl rfl) ?_
  refine aT rfl (by exact ax rfl C3 rfl aK (by rfl)) ?_
  refine aT rfl (Rd.lss rfl rfl rfl)<|ab rfl (aY rfl rfl rfl)<|af rfl<|WL.case 13 rfl (λhg13=>?_) (λhg13=>?_)
  ·
   refine aT rfl (by exact ak rfl w8 rfl rfl) ?_
   refine aT rfl (by exact ax rfl C9 rfl aK (by rfl)) ?_
   refine aT rfl (al rfl rfl)<|aT rfl (mO (a:=i) (b:=8) rfl rfl rfl rfl rfl ao ao) ?_
   refine aT rfl (fb (k:=i/8) (b:=spY f (i/8)) rfl Tryz.underlying9 rfl rfl rfl (by rw[←sR hj];exact get!_of_lt (by rw[fU];exact hj))) ?_
   refine aT rfl (al rfl rfl)<|aT rfl (gL (a:=i) (b:=8) rfl rfl rfl rfl rfl ao) ?_
   refine aT rfl (cu (a:=spN f (i/8)) (n:=i%8) rfl rfl rfl (by rw[sO]) rfl (by show i%8<=8;omega)) ?_
   refine aT rfl (iP rfl rfl rfl rfl rfl rfl (Nat.lt_of_le_of_lt (Nat.div_le_self _ _) (ux _ _)) ct) ?_
   refine aU 22 (u:=.int .u8 (b2n (f i):Nat)) rfl (by rw[E2]) ?_
   refine aT rfl (Rd.eql rfl rfl rfl)<|aU 23 (u:=vbl (f i)) rfl (Jf _) ?_
   refine ab rfl (aY rfl rfl rfl)<|ar rfl<|aw<|WC.ret (Ret.one Tryz.results178 rfl ?_)
   refine⟨_,_,hk,?_⟩
   exact bN
  ·
   omega
 ·
  omega
set_option maxRecDepth 20000 in
theorem yi(hk:POST (vs (spB n f)) R O):Fun Tryz.prog 179 #[spV n f] R O POST:=by
 refine bp<|aC (l:=[_]) Tryz.func179 rfl Tryz.ntmps179 rfl (L0:=[(0,_)]) rfl ?_
 refine aD<|aq rfl<|OpW.box rfl rfl ba rfl rfl ?_;intro b1
 refine ar rfl<|a7<|ab rfl (by exact ak rfl w8 rfl rfl) ?_
 refine ab rfl (by exact ax rfl C9 rfl aK (by rfl)) ?_
 refine ar rfl<|aw<|WC.ret (Ret.one Tryz.results179 rfl ?_)
 exact⟨_,_,hk,bN⟩
theorem Pq(v:Bool):(decide ((b2n (!v):Int)=1)==v)=false:=by cases v<;>rfl
theorem J6(f:Nat->Bool)(i:Nat):((spN f (i/8) ^^^ 1*2^(i%8)%2^IntKind.u8.bits:Nat):Int)=((UInt8.ofNat (spN f (i/8) ^^^ 2^(i%8))).toNat:Int):=by
 have h1:2^(i%8)<2^8:=Nat.pow_lt_pow_right ct (Nat.mod_lt _ ct)
 rw[Nat.one_mul,show(2:Nat)^IntKind.u8.bits=2^8 from rfl,Nat.mod_eq_of_lt h1,EE,UInt8.toNat_ofNat',Nat.mod_eq_of_lt (ux _ _)]
set_option maxRecDepth 20000 in
set_option maxHeartbeats 2000000 in
theorem sj{xs:List Ext}{xv:Value}{v:Bool}(hx:SlE cW xv xs∈R)(hn:n<=4096)(ht:bU n v f xs)(hl:xs.length<=1000000)(hk:POST (.tuple #[spV n (bP v f xs),.int .i64 0]) R O):Fun Tryz.prog 116 #[spV n f,xv,vbl v] R O POST:=by
 refine bp ?_
 have hbl: ∀g,(spB n g).length=(n+7)/8:=fU n
 refine aC (l:=[_,_,_]) Tryz.func116 rfl Tryz.ntmps116 rfl (L0:=[(0,_),(1,_),(2,_)]) rfl ?_
 refine aD<|aq rfl<|OpW.box rfl rfl ba rfl rfl ?_;intro b3
 refine aq rfl<|OpW.alloc rfl I75 rfl ba rfl rfl ?_;intro b6
 refine ar rfl<|a7<|ab rfl (by exact ak rfl w8 rfl rfl) ?_
 refine ab rfl (by exact ax rfl C9 rfl aK (by rfl)) ?_
 refine aq rfl<|OpW.bytesOf rfl Tryz.underlying9 Tryz.underlying41 Tryz.underlying5 rfl (by rw[hbl];show _<=9223372036854775807;omega) rfl rfl ?_;intro b14 c14 hc14 hm14
 refine ar rfl<|aw<|bd<|af rfl<|ab rfl (bu (enc:=cW) (xs:=xs) rfl rfl Tryz.underlying124 hx) ?_
 refine af rfl<|aw<|WC.block ?_
 refine WC.pick [17,2,3,6,8,15,16] eS ?_
 refine WC.iJ 1 (λ(j:Nat)=>[(17,.int .i64 (j:Int))]) (λ(j:Nat)=>byC b14 5 (spB n (bP v f (xs.take j)))::az b6 75 [.int .i64 0,vs []]::az b3 75 (dD n f)::O) (λ(j:Nat)=>j<=xs.length/\bU n v (bP v f (xs.take j)) (xs.drop j)) (λ(j:Nat)=>xs.length-j) (0) iw ?hinv1 cC (λ_ h=>h) ?_
 case hinv1=>
  exact⟨Nat.zero_le _,ht⟩
 intro j
 rintro⟨i1,i2⟩
 refine aD<|ab rfl (Rd.lss rfl rfl rfl)<|aw ?_
 refine aF<|aE rfl (λhc1=>?_) (λhc1=>?_)
 ·
  have hd:xs.drop j=xs[j]! ::xs.drop (j+1):=by rw[List.drop_eq_getElem_cons ao,getElem!_pos xs j ao]
  have htk:bP v f (xs.take (j+1))=gn (bP v f (xs.take j)) xs[j]!.1 xs[j]!.2 v:=by
   rw[List.take_add_one,get!_of_lt ao,wu];rfl
  rw[hd] at i2
  obtain⟨⟨x1,x2,x3⟩,x4⟩:=i2
  obtain⟨g,hg⟩: ∃g,g=bP v f (xs.take j):=⟨_,rfl⟩
  obtain⟨⟨a,k⟩,hak⟩: ∃q,q=xs[j]! :=⟨_,rfl⟩
  rw[←hg] at x3 x4 htk
  rw[←hak] at x1 x2 x3 x4 htk
  rw[←htk] at x4
  rw[←hg]
  simp only at x1 x2 x3
  refine ay<|aa<|aF<|WC.block ?_
  refine aD<|ab rfl (dy (enc:=cW) (xs:=xs) (k:=j) rfl tI rfl rfl rfl hx ao) ?_
  refine ab rfl (dM (enc:=cW) (xs:=xs) (k:=j) (a:=(a,k)) (cs:=[.int .i64 (a:Int),.int .i64 (k:Int)]) rfl sH rfl hx (λ_=>rfl) (by rw[hak];exact get!_of_lt ao) ba) ?_
  refine aq rfl<|OpW.alloc rfl wk rfl ba rfl rfl ?_;intro b10
  refine aq rfl<|aM rfl sH rfl rfl ba bh rfl rfl ba rfl ?_
  refine aw<|aF<|WC.pick [2,3,6,8,10,15,16,17] eS ?_
  refine WC.val 45 (.bool false) ?_ ?_
  ·
   refine aB<|ab rfl (by exact ak rfl mG rfl rfl) ?_
   refine ab rfl (by exact ax rfl C3 rfl aK (by rfl)) ?_
   refine ab rfl (Rd.lss rfl rfl rfl)<|af rfl<|WL.case 24 rfl (λhg24=>?_) (λhg24=>?_)
   ·
    refine aW rfl<|aW rfl<|aW rfl<|ab rfl (aY rfl rfl rfl)<|af rfl<|aW rfl<|aW rfl<|aW rfl<|aW rfl<|aW rfl<|ab rfl (aY rfl rfl rfl)<|af rfl<|aW rfl<|aW rfl<|aW rfl<|aW rfl<|aW rfl<|aW rfl<|aW rfl<|aW rfl<|ab rfl (aY rfl rfl rfl)<|aG ?_
    exact⟨by repeat(first|exact Sub.nil|refine Sub.cons rfl (by first|rfl|((exfalso;omega))) ?_),by exact(λ_ h=>h.thin (cB.mem cz))⟩
   ·
    refine aT rfl (by exact ak rfl pr rfl rfl) ?_
    refine aT rfl (by exact ax rfl C3 rfl aK (by rfl)) ?_
    refine aT rfl (Rd.lss rfl rfl rfl)<|ab rfl (aQ rfl rfl rfl)<|af rfl<|WL.case 29 rfl (λhg29=>?_) (λhg29=>?_)
    ·
     refine aW rfl<|aW rfl<|aW rfl<|aW rfl<|aW rfl<|ab rfl (aY rfl rfl rfl)<|af rfl<|aW rfl<|aW rfl<|aW rfl<|aW rfl<|aW rfl<|aW rfl<|aW rfl<|aW rfl<|ab rfl (aY rfl rfl rfl)<|aG ?_
     exact⟨by repeat(first|exact Sub.nil|refine Sub.cons rfl (by first|rfl|((exfalso;omega))) ?_),by exact(λ_ h=>h.thin (cB.mem cz))⟩
    ·
     refine aT rfl (by exact ak rfl pr rfl rfl) ?_
     refine aT rfl (by exact ax rfl C3 rfl aK (by rfl)) ?_
     refine aT rfl (by exact ak rfl wP rfl rfl) ?_
     refine aT rfl (by exact ax rfl C3 rfl aK (by rfl)) ?_
     refine aT rfl (Rd.gtr rfl rfl rfl)<|ab rfl (aQ rfl rfl rfl)<|af rfl<|WL.case 36 rfl (λhg36=>?_) (λhg36=>?_)
     ·
      refine aW rfl<|aW rfl<|aW rfl<|aW rfl<|aW rfl<|aW rfl<|aW rfl<|aW rfl<|ab rfl (aY rfl rfl rfl)<|aG ?_
      exact⟨by repeat(first|exact Sub.nil|refine Sub.cons rfl (by first|rfl|((exfalso;omega))) ?_),by exact(λ_ h=>h.thin (cB.mem cz))⟩
     ·
      refine aT rfl (by exact ak rfl mG rfl rfl) ?_
      refine aT rfl (by exact ax rfl C3 rfl aK (by rfl)) ?_
      refine aT rfl (by exact ak rfl wP rfl rfl) ?_
      refine aT rfl (by exact ax rfl C3 rfl aK (by rfl)) ?_
      refine aT rfl (by exact ak rfl pr rfl rfl) ?_
      refine aT rfl (by exact ax rfl C3 rfl aK (by rfl)) ?_
      refine aT rfl (Rd.sub rfl rfl rfl ao) ?_
      refine aT rfl (Rd.gtr rfl rfl rfl)<|ab rfl (aQ rfl rfl rfl)<|aG ?_
      exact⟨by repeat(first|exact Sub.nil|refine Sub.cons rfl (by first|rfl|(exact congrArg Value.bool (decide_eq_false ao))) ?_),by exact(λ_ h=>h.thin (cB.mem cz))⟩
  ·
   refine WC.cond rfl (λhc2=>?_) (λhc2=>?_)
   ·
    cases hc2
   ·
    refine ay<|aa<|aD<|ab rfl (by exact ak rfl pr rfl rfl) ?_
    refine ab rfl (by exact ax rfl C3 rfl aK (by rfl)) ?_
    refine ar rfl<|aw<|WC.block ?_
    refine WC.pick [11,2,3,6,8,10,15,16,17] eS ?_
    refine WC.iJ 1 (λ(m:Nat)=>[(11,.int .i64 ((a+m:Nat):Int))]) (λ(m:Nat)=>byC b14 5 (spB n (gn g a m v))::az b10 157 [.int .i64 (a:Int),.int .i64 (k:Int)]::az b6 75 [.int .i64 0,vs []]::az b3 75 (dD n f)::O) (λ(m:Nat)=>m<=k) (λ(m:Nat)=>k-m) (0) iw ?hinv2 cC (λw h=>by rw[qQ];exact dj h) ?_
    case hinv2=>
     exact Nat.zero_le _
    intro m
    rintro m1
    refine bd<|af rfl<|ab rfl (by exact ak rfl pr rfl rfl) ?_
    refine ab rfl (by exact ax rfl C3 rfl aK (by rfl)) ?_
    refine ab rfl (by exact ak rfl mG rfl rfl) ?_
    refine ab rfl (by exact ax rfl C3 rfl aK (by rfl)) ?_
    refine ab rfl (Rd.add rfl rfl rfl ao) ?_
    refine ab rfl (Rd.lss rfl rfl rfl)<|aw<|aE rfl (λhc3=>?_) (λhc3=>?_)
    ·
     have hnew:gn g a m v (a+m)= !v:=by unfold gn;rw[if_neg ao];exact x3 _ ao ao
     have hin:(a+m)/8<(n+7)/8:=by omega
     refine ay<|aa<|aF<|WC.block ?_
     refine bd<|af rfl<|af rfl<|ab rfl (mO (a:=a+m) (b:=8) rfl rfl rfl rfl rfl ao ao) ?_
     refine ab rfl (mc (k:=(a+m)/8) rfl S41 rfl rfl rfl (by rw[hbl f];exact hin)) ?_
     refine ab rfl (BE (k:=(a+m)/8) (c:=spY (gn g a m v) ((a+m)/8)) rfl C5 rfl aK (by rw[←sR hin];exact get!_of_lt (by rw[hbl];exact hin))) ?_
     refine af rfl<|ab rfl (gL (a:=a+m) (b:=8) rfl rfl rfl rfl rfl ao) ?_
     refine ab rfl (cu (a:=spN (gn g a m v) ((a+m)/8)) (n:=(a+m)%8) rfl rfl rfl (by rw[sO]) rfl (by show _<=8;omega)) ?_
     refine ab rfl (iP rfl rfl rfl rfl rfl rfl (Nat.lt_of_le_of_lt (Nat.div_le_self _ _) (ux _ _)) ct) ?_
     refine aU 66 (u:=.int .u8 (b2n (!v):Nat)) rfl (by rw[E2,hnew]) ?_
     refine ab rfl (Rd.eql rfl rfl rfl)<|af rfl<|ab rfl (zh rfl rfl rfl Tryz.underlying4)<|aU 69 (u:=.bool false) rfl (by rw[Pq]) ?_
     refine aw<|WC.cond rfl (λhc4=>?_) (λhc4=>?_)
     ·
      cases hc4
     ·
      refine ay<|aa<|WC.tail 10 mixed an ?_
      refine bn rfl (al rfl rfl)<|bn rfl (al rfl rfl)<|bn rfl (mO (a:=a+m) (b:=8) rfl rfl rfl rfl rfl ao ao) ?_
      refine bn rfl (mc (k:=(a+m)/8) rfl S41 rfl rfl rfl (by rw[hbl f];exact hin)) ?_
      refine bn rfl (BE (k:=(a+m)/8) (c:=spY (gn g a m v) ((a+m)/8)) rfl C5 rfl aK (by rw[←sR hin];exact get!_of_lt (by rw[hbl];exact hin))) ?_
      refine bn rfl (al rfl rfl)<|bn rfl (gL (a:=a+m) (b:=8) rfl rfl rfl rfl rfl ao) ?_
      refine bn rfl (Fj (a:=1) (n:=(a+m)%8) rfl rfl rfl rfl rfl (by show _<=8;omega) rfl) ?_
      refine bn rfl (e8 (a:=spN (gn g a m v) ((a+m)/8)) (b:=1*2^((a+m)%8)%2^IntKind.u8.bits) rfl rfl rfl rfl (by rw[sO]) rfl (ux _ _) (Nat.mod_lt _ ct)) ?_
      refine WS.say 79 (u:=vy (UInt8.ofNat (spN (gn g a m v) ((a+m)/8) ^^^ 2^((a+m)%8)))) rfl (by rw[J6]) ?_
      refine bn rfl (mc (k:=(a+m)/8) rfl S41 rfl rfl rfl (by rw[hbl f];exact hin)) ?_
      refine dm<|aq rfl<|BF (k:=(a+m)/8) rfl Z5 rfl rfl bh (by rw[hbl];exact hin) rfl ?_
      rw[Mp,hnew,Bool.not_not,←ot]
      refine aG<|aA<|aa<|aB<|af rfl<|ab rfl (Rd.add rfl rfl rfl ao) ?_
      exact ar rfl<|aG<|bq.mk (m+1) ao ao cC bN
    ·
     obtain rfl:m=k:=by omega
     simp only at htk
     refine WC.exit<|au.exit<|bq.exit<|aH.exit<|aA<|aa<|aB<|ab rfl (Rd.add rfl rfl rfl ao) ?_
     exact af rfl<|aG<|bq.mk (j+1) ⟨by omega,x4⟩ ao cC (λw h=>by rw[htk];exact dj h)
 ·
  obtain rfl:j=xs.length:=by omega
  rw[List.take_length]
  refine WC.exit<|au.exit<|bq.exit<|aH.exit<|aa<|aD<|ab rfl (by exact ak rfl wP rfl rfl) ?_
  refine ab rfl (by exact ax rfl C3 rfl aK (by rfl)) ?_
  refine af rfl<|ab rfl (Dr (m:=(spB n f).length) rfl Tryz.underlying41 Tryz.underlying9 Tryz.underlying5 rfl aK (by rw[hbl,hbl]) (by rw[hbl,←hbl f];exact hc14) hm14) ?_
  refine ab rfl (bO (ps:=[(0,_),(1,_)]) rfl RZ I75 rfl aZ fy (by apply NFo.mk;repeat(first|exact NF.nil|apply NF.cons))) ?_
  refine aq rfl<|aM rfl G75 rfl rfl ba bh rfl rfl ba rfl ?_
  refine ar rfl<|aw<|WC.ret (dX Tryz.results116 rfl rfl aK G75 rfl ?_)
  exact⟨_,_,hk,bN⟩
end
end Go.Proofs.YtebpkhlifcffnaaGreatDoor.Fs
namespace Go.SL
open Go Go.RowKit
section
variable{P:Program}{ops:Array Oper}{Q:Exit->Act->World->Prop}{md:Region.Mode}{S:Array Bool->World->Prop}
def wpAnyL(P:Program)(md:Region.Mode)(ops:Array Oper)(Q:Exit->Act->World->Prop)(S:Array Bool->World->Prop):Nat->Array Bool->Act->World->Prop
 |0,listed,a,w=>Region.ready md ops listed=[]/\Q .normal a w
 |fuel+1,listed,a,w=>
  (Region.ready md ops listed=[]->Q .normal a w)/\
  ∀i∈Region.ready md ops listed,wpOp P ops Q i (λa' w'=>S (listed.setIfInBounds i true) w'/\wpAnyL P md ops Q S fuel (listed.setIfInBounds i true) a' w') a w
theorem mh: ∀(fuel:Nat) (listed:Array Bool) (a:Act) (w:World),wpAnyL P md ops Q S fuel listed a w->wpAny P md ops Q fuel listed a w
 |0,_,_,_,h=>h
 |fuel+1,_,_,_,h=>⟨h.1,λi hi=>wpOp_mono (λa' w' h'=>mh fuel _ a' w' h'.2) (h.2 i hi)⟩
def NG(md:Region.Mode)(ops:Array Oper)(i j:Nat):Prop:= ∃oj,ops[j]? =some oj/\ ∃e∈oj.after,Region.binds md e=true/\e.on=i
def AB(md:Region.Mode)(ops:Array Oper)(i:Nat)(l:Array Bool):Prop:= ∀j,NG md ops i j->l.getD j true=false
theorem wpAnyL_first{i:Nat}{oi:Oper}{v:Value}(hi:ops[i]? =some oi)(hsel: ∀(j:Nat) (o:Oper) cs b,ops[j]? =some o->o.op≠ .select cs b)
 (hQ: ∀c a w,Q (.panic c) (a.put oi.dst v) w->Q (.panic c) a w)
 (hmono: ∀l w,S l w->S (l.setIfInBounds i true) w) (hback: ∀l w,S (l.setIfInBounds i true) w->S l w):
 ∀(fuel:Nat) (listed:Array Bool) (a:Act) (w:World),
  (∀j oj,ops[j]? =some oj->j≠i->listed.getD j true=false->(∀e∈oj.after,Region.binds md e=true->e.on≠i)->oi.apart ops oj=true)->
  i∈Region.ready md ops listed->AB md ops i listed->YieldsIf P ops (λw=> ∃l,AB md ops i l/\S l w) oi v a->S listed w->
  wpAnyL P md ops Q S fuel (listed.setIfInBounds i true) (a.put oi.dst v) w->wpAnyL P md ops Q S (fuel+1) listed a w:=by
 intro fuel
 induction fuel with
 |zero=>
  intro listed a w _ hr hE hy hS H
  refine⟨λh=>(by rw[h] at hr;cases hr),λj hj=>?_⟩
  by_cases hji:j=i
  ·subst hji;exact hy.wpOp hi ⟨listed,hE,hS⟩ ⟨hmono _ _ hS,H⟩
  ·have:=ready_mono hj hji
   rw[H.1] at this
   cases this
 |succ fuel ih=>
  intro listed a w hfree hr hE hy hS H
  refine⟨λh=>(by rw[h] at hr;cases hr),λj hj=>?_⟩
  by_cases hji:j=i
  ·subst hji;exact hy.wpOp hi ⟨listed,hE,hS⟩ ⟨hmono _ _ hS,H⟩
  ·have h1:=H.2 j (ready_mono hj hji)
   obtain⟨hjun,oj,hoj,hall⟩:=mem_ready.1 hj
   have hnot: ∀e∈oj.after,Region.binds md e=true->e.on≠i:=λe he hb heq=>by
    have h1:=hall e he hb
    have h0:=(mem_ready.1 hr).1
    rw[heq] at h1
    rcases Nat.lt_or_ge i listed.size with h'|h'
    ·simp[h'] at h0 h1;rw[h0] at h1;cases h1
    ·simp[Array.getElem?_eq_none h'] at h1
   have h2:=wpOp_putIf hoj (hfree j oj hoj hji hjun hnot) (λcs b=>hsel i oi cs b hi) (λcs b=>hsel j oj cs b hoj) hQ hy h1
   have hfree': ∀k ok,ops[k]? =some ok->k≠i->(listed.setIfInBounds j true).getD k true=false->
    (∀e∈ok.after,Region.binds md e=true->e.on≠i)->oi.apart ops ok=true:=λk ok hk hki hun hno=>by
    refine hfree k ok hk hki ?_ hno
    by_cases hjk:j=k
    ·subst hjk;exact hjun
    ·rw[getD_set_ne true hjk] at hun;exact hun
   have hE':AB md ops i (listed.setIfInBounds j true):=λk hk=>by
    have hjk:j≠k:=by
     rintro rfl
     obtain⟨ok,hok,e,he,hb,heq⟩:=hk
     rw[hoj] at hok
     cases hok
     exact hnot e he hb heq
    rw[getD_set_ne true hjk];exact hE k hk
   refine wpOp_mono (λa' w' h3=>?_) h2
   have hS':S (listed.setIfInBounds j true) w':=hback _ _ (by rw[Array.setIfInBounds_comm _ _ hji];exact h3.2.1)
   refine⟨hS',ih (listed.setIfInBounds j true) a' w' hfree' (ready_mono hr (Ne.symm hji)) hE' h3.1 hS' ?_⟩
   rw[Array.setIfInBounds_comm _ _ hji]
   exact h3.2.2
end
section draw
variable{P:Program}{n:Sz}{ops:Array Oper}{Q:cT}{S:List RO}{T:List Own}{U:List (Nat×Own)}{fuel:Nat}{listed:Array Bool}{L:Env}{R:List RO}{O:List Own}{o:Oper}
def Hs(S:List RO)(T:List Own)(U:List (Nat×Own))(l:Array Bool)(w:World):Prop:=(∀p∈S,p w)/\(∀c∈T,c.pred w)/\ ∀u∈U,l.getD u.1 true=false->u.2.pred w
def WE(P:Program)(n:Sz)(ops:Array Oper)(Q:cT)(S:List RO)(T:List Own)(U:List (Nat×Own))(fuel:Nat)(listed:Array Bool)(L:Env)(R:List RO)(O:List Own):Prop:=
 ∀a w,Fr n L a->Sat R O w->wpAnyL P .any ops (lift n Q) (Hs S T U) fuel listed a w
def bG(S:List RO)(T:List Own)(U:List (Nat×Own))(l:Array Bool)(R:List RO)(O:List Own):Prop:= ∀w,Sat R O w->Hs S T U l w
def live(U:List (Nat×Own))(l:Array Bool):List Own:=(U.filter λu=>l.getD u.1 true==false).map (·.2)
inductive AG(O:List Own):List Own->Prop
 |nil:AG O []
 |cons {c:Own} {V:List Own} (h:c∈O) (k:AG O V):AG O (c::V)
theorem AG.mem{V:List Own}(h:AG O V): ∀c∈V,c∈O:=by
 induction h with
 |nil=>exact λc hc=>absurd hc List.not_mem_nil
 |cons h _ ih=>
  intro c hc
  rcases List.mem_cons.1 hc with rfl|hc
  ·exact h
  ·exact ih c hc
theorem aP{l:Array Bool}(V:List Own)(hV:live U l=V)(hS:cB S R)(hT:gS O T)(hU:AG O V):bG S T U l R O:=λ_ h=>
 ⟨λp hp=>h.read (hS.mem p hp),λc hc=>h.see (hT.mem.1 c hc),λu hu hl=>h.see (hU.mem u.2 (by rw[←hV];exact List.mem_map.2 ⟨u,List.mem_filter.2 ⟨hu,by rw[hl];rfl⟩,rfl⟩))⟩
def tQ(ops:Array Oper)(U:List (Nat×Own))(i:Nat):Bool:=U.all λu=>u.1!=i&&(match ops[u.1]? with
 |some o=>o.after.any λe=>Region.binds .any e&&e.on==i
 |none=>false)
theorem G1{V:List (Nat×Own)}{i:Nat}{v:Value}{dst:Option Nat}{L':Env}(hi:ops[i]? =some o)(hok:mB ops listed i=true)(hne:(U.all λu=>u.1!=i)=true)(hVU:V.Sublist U)(hb:tQ ops V i=true)(hS:bG S T U listed R O)(hE:AB .any ops i listed)(hd:o.dst=dst)(hL: ∀a,Fr n L a->Fr n L' (a.put dst v))
 (hy: ∀a,Fr n L a->YieldsIf P ops (λw=>(∀p∈S,p w)/\ ∀c∈V.map (·.2)++T,c.pred w) o v a) (k:WE P n ops Q S T U fuel (listed.setIfInBounds i true) L' R O):WE P n ops Q S T U (fuel+1) listed L R O:=by
 intro a w hf hs
 simp only[mB,Bool.and_eq_true] at hok
 have hne2: ∀u∈U,u.1≠i:=λu hu=>by simpa using List.all_eq_true.1 hne u hu
 have hbw: ∀u∈V,u.1≠i/\NG .any ops i u.1:=λu hu=>by
  have h:=List.all_eq_true.1 hb u hu
  rw[Bool.and_eq_true] at h
  refine⟨by simpa using h.1,?_⟩
  have h2:=h.2
  cases ho:ops[u.1]? with
  |none=>rw[ho] at h2;cases h2
  |some oj=>
   rw[ho] at h2
   obtain⟨e,he,hee⟩:=Array.any_eq_true'.1 h2
   rw[Bool.and_eq_true] at hee
   exact⟨oj,ho,e,he,hee.1,by simpa using hee.2⟩
 refine wpAnyL_first (v:=v) hi (Region.noSelect_spec hok.1.1) (λc a w h=>h) ?_ ?_ fuel listed a w (Region.free_spec hi hok.1.2) (by simpa using hok.2) hE ?_ (hS w hs) ?_
 ·rintro l w ⟨h1,h2,h3⟩
  exact⟨h1,h2,λu hu hl=>h3 u hu (by rw[getD_set_ne true (Ne.symm (hne2 u hu))] at hl;exact hl)⟩
 ·rintro l w ⟨h1,h2,h3⟩
  exact⟨h1,h2,λu hu hl=>h3 u hu (by rw[getD_set_ne true (Ne.symm (hne2 u hu))];exact hl)⟩
 ·rcases hy a hf with⟨h1,h2⟩|h
  ·refine .inl ⟨h1,λw hw=>h2 w ?_⟩
   obtain⟨l,hEl,g1,g2,g3⟩:=hw
   refine⟨g1,λc hc=>?_⟩
   rcases List.mem_append.1 hc with hc|hc
   ·obtain⟨u,hu,rfl⟩:=List.mem_map.1 hc
    exact g3 u (hVU.subset hu) (hEl u.1 (hbw u hu).2)
   ·exact g2 c hc
  ·exact .inr h
 ·rw[hd]
  exact k _ _ (hL a hf) hs
def xX(ops:Array Oper)(listed:Array Bool)(i:Nat):Bool:=(List.range ops.size).all λj=>match ops[j]? with
 |some o=> !(o.after.any λe=>Region.binds .any e&&e.on==i)||(listed.getD j true==false)
 |none=>true
theorem Kh{i:Nat}(h:xX ops listed i=true):AB .any ops i listed:=by
 rintro j ⟨oj,hoj,e,he,hb,heq⟩
 have hj:j<ops.size:=(Array.getElem?_eq_some_iff.1 hoj).1
 have h1:=List.all_eq_true.1 h j (List.mem_range.2 hj)
 rw[hoj] at h1
 simp only[Bool.or_eq_true,Bool.not_eq_true'] at h1
 rcases h1 with h1|h1
 ·have:(oj.after.any λe=>Region.binds .any e&&e.on==i)=true:=Array.any_eq_true'.2 ⟨e,he,by rw[hb,heq];simp⟩
  rw[this] at h1;cases h1
 ·simpa using h1
def BU(ops:Array Oper)(listed:Array Bool)(U V:List (Nat×Own))(i:Nat):Bool:=mB ops listed i&&(tQ ops V i&&(xX ops listed i&&U.all λu=>u.1!=i))
theorem jU{V:List (Nat×Own)}{i:Nat}(h:BU ops listed U V i=true):mB ops listed i=true/\tQ ops V i=true/\xX ops listed i=true/\(U.all λu=>u.1!=i)=true:=by
 unfold BU at h
 rw[Bool.and_eq_true,Bool.and_eq_true,Bool.and_eq_true] at h
 exact⟨h.1,h.2.1,h.2.2.1,h.2.2.2⟩
theorem WE.take(i:Nat)(V:List (Nat×Own)){d:Nat}{v:Value}(hi:ops[i]? =some o)(hok:BU ops listed U V i=true)(hVU:V.Sublist U)(hS:bG S T U listed R O)(hg:o.guard=none)(hd:o.dst=some d)(hn:Nat.blt d n.n=true)(h:Rd P o L S (V.map (·.2)++T) v)
 (k:WE P n ops Q S T U fuel (listed.setIfInBounds i true) ((d,v)::L) R O):WE P n ops Q S T U (fuel+1) listed L R O:=
 G1 hi (jU hok).1 (jU hok).2.2.2 hVU (jU hok).2.1 hS (Kh (jU hok).2.2.1) hd (λ_ hf=>hf.put hn v) (λa hf=>.inl ⟨by simp[Region.wanted,hg],λw hw=>h a.eval w (λx u hx=>hf.ev hx) hw.1 hw.2⟩) k
theorem WE.one(i:Nat)(hi:ops[i]? =some o)(hr:Region.ready .any ops listed=[i])(hg:o.guard=none)
 (h:OpW P n o L R O (λL' R' O'=>bG S T U (listed.setIfInBounds i true) R' O'/\WE P n ops Q S T U fuel (listed.setIfInBounds i true) L' R' O')):WE P n ops Q S T U (fuel+1) listed L R O:=by
 intro a w hf hs
 refine⟨λh0=>(by rw[hr] at h0;cases h0),λj hj=>?_⟩
 rw[hr] at hj
 simp only[List.mem_singleton] at hj
 subst hj
 unfold wpOp
 rw[hi]
 simp only[Region.wanted,hg,if_true]
 exact .inl (Oper.wp_mono (λa' w' ⟨L',R',O',hk,hf',hs'⟩=>⟨hk.1 w' hs',hk.2 a' w' hf' hs'⟩) (h a w hf hs _))
theorem WE.say(t:Nat){v u:Value}(ht:Env.find L t=some v)(e:v=u)(k:WE P n ops Q S T U fuel listed ((t,u)::L) R O):WE P n ops Q S T U fuel listed L R O:=
 λa w hf hs=>k a w (hf.known ht e) hs
theorem WE.heap{R':List RO}{O':List Own}(hs: ∀w,Sat R O w->Sat R' O' w)(c:WE P n ops Q S T U fuel listed L R' O'):WE P n ops Q S T U fuel listed L R O:=λa w hf h=>c a w hf (hs w h)
theorem WE.done(hr:(Region.ready .any ops listed).isEmpty=true)(h:Q .normal L R O):WE P n ops Q S T U fuel listed L R O:=λa w hf hs=>by
 have hr':=List.isEmpty_iff.1 hr
 have hq:=fK h hf hs
 cases fuel with
 |zero=>exact⟨hr',hq⟩
 |succ m=>exact⟨λ_=>hq,λi hi=>by rw[hr'] at hi;cases hi⟩
theorem WC.o9{id:Nat}{l:List Oper}(T:List Own)(U:List (Nat×Own))(m:Nat)(hlen:l.length=m)(hm:P.follows .mixedOrders=true)(h:WE P n l.toArray Q R T U m (Array.replicate m false) L R O):WC P n (.region id l.toArray true) Q L R O:=by
 subst hlen
 intro a w hf hs
 exact wp_region_any hm (mh _ _ _ _ (h a _ hf (hs.drew _)))
end draw
end Go.SL
namespace Go.SL
open Go
section
variable{P:Program}{n:Sz}{ops:Array Oper}{Q:cT}{rest:List Oper}{o:Oper}{L L':Env}{R:List RO}{O O':List Own}
theorem WR.o9{ro:Option Nat}{id:Nat}{l:List Oper}(T:List Own)(U:List (Nat×Own))(m:Nat)(hlen:l.length=m)(hm:P.follows .mixedOrders=true)(h:WE P n l.toArray Q R T U m (Array.replicate m false) L R O)(hd:pV l=true:=by kernel_rfl):WR ro P n (.region id l.toArray true) Q L R O:=by
 subst hlen
 intro a w hf hs
 exact wpIn_region_any hm (qd (λo ho=>kG hd (by simpa using ho)) uT _ _ _ _ (mh _ _ _ _ (h a _ hf (hs.drew _))))
theorem cx.fJ{ro:Option Nat}{y:Code}(h:Q .ret L R O):cx ro P n y Q .ret L R O:=h
theorem aH.fJ{id:Nat}(h:Q .ret L R O):aH id Q .ret L R O:=h
theorem bq.fJ{α:Type}{ch:α->Env}{Lc:Env}{RF:α->List RO}{OF:α->List Own}{I:α->Prop}{μ:α->Nat}{m:Nat}(h:Q .ret L R O):bq ch Lc RF OF I μ m Q .ret L R O:=h
theorem bC.fJ{α β:Type}{ch:α->β->Env}{Lc:Env}{RF:α->β->List RO}{OF:α->β->List Own}{I:α->β->Prop}{μ:α->β->Nat}{m:Nat}(h:Q .ret L R O):bC ch Lc RF OF I μ m Q .ret L R O:=h
theorem au.fJ{y:Code}(h:Q .ret L R O):au P n y Q .ret L R O:=h
theorem kA.fJ{α β γ δ:Type}{ch:α->β->γ->δ->Env}{Lc:Env}{RF:α->β->γ->δ->List RO}{OF:α->β->γ->δ->List Own}{I:α->β->γ->δ->Prop}{μ:α->β->γ->δ->Nat}{m:Nat}(h:Q .ret L R O):kA ch Lc RF OF I μ m Q .ret L R O:=h
theorem WY.case(t:Nat){p:Prop} [Decidable p] (ht:Env.find L t=some (.bool (decide p)))(hy:p->WY P n ops Q rest ((t,.bool true)::L) R O)(hno: ¬p->WY P n ops Q rest ((t,.bool false)::L) R O):WY P n ops Q rest L R O:=by
 intro a w hf hs
 by_cases h:p
 ·exact hy h a w (hf.known ht (by simp[h])) hs
 ·exact hno h a w (hf.known ht (by simp[h])) hs
theorem WY.c4{j d:Nat}{b:Bool}(hg:o.guard=some (j,b))(hj:(ops[j]?).bind (·.dst)=some d)(hn:Nat.blt d n.n=true)(hb:Env.find L d=some (.bool b))
 (h:OpW P n o L R O (λL' R' O'=>WY P n ops Q rest L' R' O')) (hd:pV [o]=true:=by kernel_rfl):WY P n ops Q (o::rest) L R O:=by
 intro a w hf hs
 unfold wpListIn
 rw[if_pos (by rw[fj hf hg hj hn hb];simp)]
 refine zW (kG hd List.mem_cons_self) ?_
 exact Oper.wp_mono (λa' w' ⟨L',R',O',hk,hf',hs'⟩=>hk a' w' hf' hs') (h a w hf hs _)
theorem WY.fq{j d e:Nat}{b:Bool}{v:Value}(hg:o.guard=some (j,b))(hj:(ops[j]?).bind (·.dst)=some e)(hne:Nat.blt e n.n=true)(hb:Env.find L e=some (.bool b))
 (hd:o.dst=some d) (hn:Nat.blt d n.n=true) (h:Rd P o L R O v) (k:WY P n ops Q rest ((d,v)::L) R O) (hdf:pV [o]=true:=by kernel_rfl):WY P n ops Q (o::rest) L R O:=
 WY.c4 hg hj hne hb (OpW.rd hd hn h k) hdf
theorem WY.no{j d e:Nat}{b:Bool}(hg:o.guard=some (j,b))(hj:(ops[j]?).bind (·.dst)=some e)(hne:Nat.blt e n.n=true)(hb:Env.find L e=some (.bool (!b)))
 (hd:o.dst=some d) (_:Nat.blt d n.n=true) (k:WY P n ops Q rest ((d,undef)::L) R O):WY P n ops Q (o::rest) L R O:=by
 rename_i hn
 intro a w hf hs
 unfold wpListIn
 rw[if_neg (by rw[fj hf hg hj hne hb];cases b<;>simp),hd]
 exact⟨λ_ _=>trivial,k _ _ (hf.put hn _) hs⟩
theorem qI{l j e:Nat}{b0:Bool}{x:Operand}{xs:List Operand}{azs:List Value}{ts:Array TypeId}{d:Nat}(hg:o.guard=some (j,b0))(hj:(ops[j]?).bind (·.dst)=some e)(hne:Nat.blt e n.n=true)(hb:Env.find L e=some (.bool b0))(ho:o.op= .call {callee:=.value x,args:=xs.toArray,argTypes:=ts})
 (hx:ev L x=some (.func (.yield l) #[] #[])) (has:Evs L xs azs) (hd:o.dst=some d) (hn:Nat.blt d n.n=true)
 (h:Yld P l azs R O (λb R' O'=>WY P n ops Q rest ((d,.bool b)::L) R' O')):WY P n ops Q (o::rest) L R O:=by
 intro a w hf hs
 unfold wpListIn
 rw[if_pos (by rw[fj hf hg hj hne hb];simp)]
 refine⟨λ_ _=>trivial,?_⟩
 have e1:a.eval x=_:=hf.ev hx
 have e2:=has.eval (ρ:=a.eval) (λx u hx=>hf.ev hx)
 obtain⟨fn,tmps,assign,body,hy,hR⟩:=h w hs
 have hr:(execOp a.eval o).run P w= .ok (.round l fn tmps assign body) w:=by
  simp only[execOp,ho,resolve,e1,Deferred.ofValue,List.map_toArray,e2,Sem.run_bind,Sem.run_pure,Result.andThen_ok,invoke]
  simpa using hy
 show o.uponIn _ _ _ _ _ _ ((o.semAt none a.eval).run P w)
 rw[Oper.semAt_none,hr,Oper.uponIn_round]
 refine⟨λhx=>Bool.noConfusion hx,hR.mono λe w' hq=>?_⟩
 obtain⟨b,R',O',he,hk,hs'⟩:=hq
 subst he
 rw[hd]
 exact hk _ _ (hf.put hn _) hs'
def lD(id l:Nat)(n:Sz)(L:Env)(D:Nat)(ps:Array Tmp)(assign body:Code)(K:Bool->List RO->List Own->Prop):cT
 | .normal,_,R,O=> ∃O2,Take (recC l n L D .busy none ps assign body) O O2/\K true R (recC l n L D .ready none ps assign body::O2)
 | .exit i,_,R,O=>i=id/\ ∃O2,Take (recC l n L D .busy none ps assign body) O O2/\K false R (recC l n L D .done (some (.exit id)) ps assign body::O2)
 |_,_,_,_=>False
def tb(id l:Nat)(P:Program)(n:Sz)(L:Env)(D:Nat)(ps:Array Tmp)(assign body:Code)(K:Bool->List RO->List Own->Prop):cT
 | .normal,L',R,O=> ∃O2,Take (recC l n L D .ready none ps assign body) O O2/\WR (some l) P ⟨n.n,[]⟩ body (lD id l n L D ps assign body K) L' R (recC l n L D .busy none ps assign body::O2)
 |_,_,_,_=>False
theorem tb.mk{id l:Nat}{Lr L':Env}{D:Nat}{ps:Array Tmp}{assign body:Code}{K:Bool->List RO->List Own->Prop}{O2:List Own}(hT:Take (recC l n Lr D .ready none ps assign body) O O2)
 (h:WR (some l) P ⟨n.n,[]⟩ body (lD id l n Lr D ps assign body K) L' R (recC l n Lr D .busy none ps assign body::O2)):tb id l P n Lr D ps assign body K .normal L' R O:=⟨O2,hT,h⟩
theorem lD.on{id l:Nat}{Lr L':Env}{D:Nat}{ps:Array Tmp}{assign body:Code}{K:Bool->List RO->List Own->Prop}{O2:List Own}(hT:Take (recC l n Lr D .busy none ps assign body) O O2)
 (h:K true R (recC l n Lr D .ready none ps assign body::O2)):lD id l n Lr D ps assign body K .normal L' R O:=⟨O2,hT,h⟩
theorem lD.off{id l:Nat}{Lr L':Env}{D:Nat}{ps:Array Tmp}{assign body:Code}{K:Bool->List RO->List Own->Prop}{O2:List Own}(hT:Take (recC l n Lr D .busy none ps assign body) O O2)
 (h:K false R (recC l n Lr D .done (some (.exit id)) ps assign body::O2)):lD id l n Lr D ps assign body K (.exit id) L' R O:=⟨rfl,O2,hT,h⟩
theorem Dx{id l:Nat}{Lr:Env}{D:Nat}{ps:List Nat}{assign body:Code}{args:List Value}{K:Bool->List RO->List Own->Prop}{L0:Env}
 (hT:Take (recC l n Lr D .ready none ps.toArray assign body) O O') (hsz:args.length=ps.length) (hps:ps.all (λp=>Nat.blt p n.n)=true) (hL0:fi ps args Lr=L0)
 (h:WR (some l) P ⟨n.n,[]⟩ assign (tb id l P n Lr D ps.toArray assign body K) L0 R (recC l n Lr D .ready none ps.toArray assign body::O')):Yld P l args R O K:=by
 intro w hs
 have hs1:=hs.perm hT.perm
 obtain⟨f,tmps,hl,hf⟩:=hs1.see List.mem_cons_self
 have hy:=run_yield (P:=P) (args:=args.toArray) hl (by simpa using hsz)
 refine⟨f,_,assign,body,hy,?_⟩
 refine roundIn_of_wpIn trivial ?_
 have hzip:(ps.toArray.zip args.toArray).foldl (λt (p,v)=>t.setIfInBounds p v) tmps=(ps.zip args).foldl (λt (p,v)=>t.setIfInBounds p v) tmps:=by
  rw[←Array.foldl_toList];simp
 have hf0:Fr ⟨n.n,[]⟩ L0 {tmps:=(ps.toArray.zip args.toArray).foldl (λt (p,v)=>t.setIfInBounds p v) tmps,defers:=[]}:=by
  rw[hzip,←hL0];exact Fr.params ps args hps hf
 refine wpIn_mono (h _ w hf0 hs1) λe a1 w1 hq=>?_
 cases e with
 |normal=>
  obtain⟨L1,R1,O1,⟨O2,hT1,hb⟩,hf1,hs1⟩:=hq
  have hs2:=hs1.perm hT1.perm
  obtain⟨f1,tmps1,hl1,hfr1⟩:=hs2.see List.mem_cons_self
  refine⟨_,run_beginRound hl1 rfl,?_⟩
  refine wpIn_mono (hb a1 _ hf1 (hs2.gJ hfr1)) λe a2 w2 hq=>?_
  cases e with
  |normal=>
   obtain⟨L2,R2,O3,⟨O4,hT2,hk⟩,_,hs3⟩:=hq
   have hs4:=hs3.perm hT2.perm
   obtain⟨f2,tmps2,hl2,hfr2⟩:=hs4.see List.mem_cons_self
   exact⟨_,_,run_endRound none hl2,true,_,_,rfl,hk,hs4.gJ hfr2⟩
  |exit i=>
   obtain⟨L2,R2,O3,⟨rfl,O4,hT2,hk⟩,_,hs3⟩:=hq
   have hs4:=hs3.perm hT2.perm
   obtain⟨f2,tmps2,hl2,hfr2⟩:=hs4.see List.mem_cons_self
   exact⟨_,_,run_endRound (some (.exit i)) hl2,false,_,_,rfl,hk,hs4.gJ hfr2⟩
  |ret=>obtain⟨_,_,_,hk,_⟩:=hq;exact hk.elim
  |goto t=>obtain⟨_,_,_,hk,_⟩:=hq;exact hk.elim
  |panic c=>exact hq.elim
  |outgrown=>exact hq.elim
 |ret=>obtain⟨_,_,_,hk,_⟩:=hq;exact hk.elim
 |exit id=>obtain⟨_,_,_,hk,_⟩:=hq;exact hk.elim
 |goto t=>obtain⟨_,_,_,hk,_⟩:=hq;exact hk.elim
 |panic c=>exact hq.elim
 |outgrown=>exact hq.elim
def Qq(P:Program)(id l D:Nat)(n:Sz)(ps:List Nat)(assign body y:Code)(Q:cT)(L:Env)(R:List RO)(O:List Own):Prop:=
 ∃O2,(Take (recC l n L D .ready none ps.toArray assign body) O O2∨Take (recC l n L D .done (some (.exit id)) ps.toArray assign body) O O2)/\WC P ⟨n.n,iZ D⟩ y (iD Q) L R O2
def nc(P:Program)(n:Sz)(id:Nat)(g:Operand)(ps:List Nat)(assign body y:Code)(Q:cT)(L:Env)(R:List RO)(O:List Own):Prop:=
 ∃gf fs lb,ev L g=some (.func (.func gf) (List.toArray fs) (List.toArray lb))/\cZ P gf=true/\
  ∀l D,Fun P gf (fs++ .func (.yield l) #[] #[]::lb).toArray R (recC l n L D .ready none ps.toArray assign body::dfC D::O) (λ_ R' O'=>Qq P id l D n ps assign body y Q L R' O')
theorem nc.mk{id:Nat}{g:Operand}{ps:List Nat}{assign body y:Code}{gf:Nat}{fs lb:List Value}(hg:ev L g=some (.func (.func gf) fs.toArray lb.toArray))(hb:cZ P gf=true)
 (h: ∀l D,Fun P gf (fs++ .func (.yield l) #[] #[]::lb).toArray R (recC l n L D .ready none ps.toArray assign body::dfC D::O) (λ_ R' O'=>Qq P id l D n ps assign body y Q L R' O')):
 nc P n id g ps assign body y Q L R O:=⟨gf,fs,lb,hg,hb,h⟩
theorem nc.core{g:Operand}{ps:List Nat}{assign body y:Code}{id:Nat}{a:Act}{w:World}(hds:n.ds=[])(hr:nc P n id g ps assign body y Q L R O)(hf:Fr n L a)(hs:Sat R O w):
 (Code.block id (.rangeFunc g ps.toArray assign body)).wpIn Fence.wide 0 P (Exit.then (y.wpIn Fence.wide 0 P (lift n Q)) (lift n Q)) a w:=by
 obtain⟨gf,fs,lb,hg,hb,h⟩:=hr
 refine wpIn_block ?_
 refine wpIn_rangeFunc λfn _=>?_
 have hsD:Sat R (dfC w.heap.size::O) (w.alloc (.deferred (some []))):=hs.alloc _ _ rfl (λw' h _=>h)
 have hsz:(w.alloc (.deferred (some []))).heap.size=w.heap.size+1:=by simp
 have hfr:Fr ⟨n.n,[]⟩ L {tmps:=a.tmps,defers:=[]}:=⟨hf.size,rfl,λt v ht=>hf.get t v ht⟩
 have hsL:Sat R (recC (w.heap.size+1) n L w.heap.size .ready none ps.toArray assign body::dfC w.heap.size::O) ((w.alloc (.deferred (some []))).alloc (.loop {state:=.ready,pending:=none,fn,tmps:=a.tmps,params:=ps.toArray,assign,body,defers:=w.heap.size})):=
  hsD.alloc _ _ (by rw[hsz];rfl) (λw' h _=>⟨fn,a.tmps,by rw[hsz] at h;exact h,hfr⟩)
 have e1:a.eval g=_:=hf.ev hg
 have hc:=h (w.heap.size+1) w.heap.size _ hsL
 obtain⟨W1,hW1⟩: ∃W1,(w.alloc (.deferred (some []))).alloc (.loop {state:=.ready,pending:=none,fn,tmps:=a.tmps,params:=ps.toArray,assign,body,defers:=w.heap.size})=W1:=⟨_,rfl⟩
 rw[hW1] at hc
 have fin: ∀(R':List RO) (O2:List Own) (w3:World),WC P ⟨n.n,iZ w.heap.size⟩ y (iD Q) L R' O2->Sat R' O2 w3->Code.wpIn Fence.wide 0 P y (lift n Q) {a with defers:=iZ w.heap.size++a.defers} w3:=by
  intro R' O2 w3 hy hs4
  have hf2:Fr ⟨n.n,iZ w.heap.size⟩ L {a with defers:=iZ w.heap.size++a.defers}:=⟨hf.size,by show _++a.defers=_;rw[hf.defers,hds];rfl,λt v ht=>hf.get t v ht⟩
  have hy':=hy _ _ hf2 hs4
  refine wpIn_wide.2 (wp_mono hy' λe a' w' hq=>?_)
  cases e with
  |ret=>obtain⟨L',R',O',h1,h2,h3⟩:=hq;exact⟨L',R',O',h1,h2,h3⟩
  |normal=>obtain⟨_,_,_,hk,_⟩:=hq;exact hk.elim
  |exit id=>obtain⟨_,_,_,hk,_⟩:=hq;exact hk.elim
  |goto t=>obtain⟨_,_,_,hk,_⟩:=hq;exact hk.elim
  |panic c=>exact hq.elim
  |outgrown=>exact hq.elim
 refine⟨w.heap.size+1,iZ w.heap.size,W1,{target:=.fn (.func gf) lb.toArray,args:=fs.toArray++#[.func (.yield (w.heap.size+1)) #[] #[]]},W1,gf,(fs++ .func (.yield (w.heap.size+1)) #[] #[]::lb).toArray,W1,
  hW1▸run_enterLoop_outer fn a.tmps ps.toArray assign body,?_,λ_ _=>trivial,?_,λhx=>Bool.noConfusion hx,(callsIn_wide (n:=0)).2 (hc.mono ?_)⟩
 ·simp only[resolve,e1]
  simp[go_sem,Deferred.ofValue]
 ·simp[invoke,go_sem,di hb]
 ·rintro e w2 ⟨v,R',O',rfl,⟨O2,hT,hy⟩,hs2⟩
  rcases hT with hT|hT
  ·have hs3:=hs2.perm hT.perm
   obtain⟨f2,tmps2,hl2,hfr2⟩:=hs3.see List.mem_cons_self
   refine⟨none,_,run_endLoop hl2 (by simp),?_⟩
   exact fin R' O2 _ hy (hs3.gJ (st':=.exhausted) (pe':=none) (f:=f2) hfr2).drop
  ·have hs3:=hs2.perm hT.perm
   obtain⟨f2,tmps2,hl2,hfr2⟩:=hs3.see List.mem_cons_self
   refine⟨some (.exit id),_,run_endLoop hl2 (by simp),?_⟩
   have:=fin R' O2 _ hy (hs3.gJ (st':=.exhausted) (pe':=some (.exit id)) (f:=f2) hfr2).drop
   refine wpIn_exit ?_
   simpa [Exit.inBlock,Exit.then] using this
def qi(P:Program)(n:Sz)(id:Nat)(g:Operand)(ps:List Nat)(assign body y:Code)(Q:cT):cT
 | .normal,L,R,O=>nc P n id g ps assign body y Q L R O
 |e,L,R,O=>Q e L R O
theorem qi.normal{id:Nat}{g:Operand}{ps:List Nat}{assign body y:Code}(h:nc P n id g ps assign body y Q L R O):qi P n id g ps assign body y Q .normal L R O:=h
def pz(P:Program)(n:Sz)(id:Nat)(c g:Operand)(ps:List Nat)(assign body x y:Code)(Q:cT):cT
 | .normal,L,R,O=> ∃b:Bool,ev L c=some (.bool b)/\(b=true->WC P n x (qi P n id g ps assign body y Q) L R O)/\(b=false->WC P n y Q L R O)
 |e,L,R,O=>Q e L R O
theorem pz.mk{id:Nat}{c g:Operand}{ps:List Nat}{assign body x y:Code}{p:Prop} [Decidable p] (hc:ev L c=some (.bool (decide p)))(ht:p->WC P n x (qi P n id g ps assign body y Q) L R O)(hf: ¬p->WC P n y Q L R O):
 pz P n id c g ps assign body x y Q .normal L R O:=⟨_,hc,λh=>ht (of_decide_eq_true h),λh=>hf (of_decide_eq_false h)⟩
theorem pz.core{c g:Operand}{ps:List Nat}{assign body x y:Code}{id:Nat}{a:Act}{w:World}(hds:n.ds=[])(h:pz P n id c g ps assign body x y Q .normal L R O)(hfr:Fr n L a)(hs:Sat R O w):
 (Code.cond c (.seq x (.block id (.rangeFunc g ps.toArray assign body))) .skip).wpIn Fence.wide 0 P (Exit.then (y.wpIn Fence.wide 0 P (lift n Q)) (lift n Q)) a w:=by
 obtain⟨b,hc,ht,hf⟩:=h
 refine wpIn_cond_split (hfr.ev hc) (λh=>?_) (λh=>?_)
 ·refine wpIn_seq (wpIn_wide.2 (wp_mono (ht h a w hfr hs) λe a' w' hq=>?_))
  cases e with
  |normal=>obtain⟨L',R',O',hk,hf',hs'⟩:=hq;exact nc.core hds hk hf' hs'
  |exit id=>exact hq
  |goto l=>exact hq
  |ret=>exact hq
  |panic c=>exact hq
  |outgrown=>exact hq
 ·exact wpIn_skip (wpIn_wide.2 (hf h a w hfr hs))
theorem WC.yf{r:Code}{c g:Operand}{ps:List Nat}{assign body x y:Code}{id:Nat}(hds:n.ds=[])(h:WC P n r (pz P n id c g ps assign body x y Q) L R O):
 WC P n (.seq (.seq r (.cond c (.seq x (.block id (.rangeFunc g ps.toArray assign body))) .skip)) y) Q L R O:=by
 intro a w hf hs
 refine wpIn_wide.1 (wpIn_seq (F:=Fence.wide) (n:=0) (wpIn_seq (wpIn_wide.2 (wp_mono (h a w hf hs) λe a' w' hq=>?_))))
 cases e with
 |normal=>obtain⟨L',R',O',hk,hf',hs'⟩:=hq;exact pz.core hds hk hf' hs'
 |exit id=>exact hq
 |goto l=>exact hq
 |ret=>exact hq
 |panic c=>exact hq
 |outgrown=>exact hq
end
end Go.SL
namespace Go.Proofs.YtebpkhlifcffnaaGreatDoor.Fs
open Go Go.SL
theorem cw(x:Ref):(encR x).length=2:=rfl
theorem vB(x:Ref): ∀v∈encR x,v.oneCell'=true:=λv hv=>by
 unfold encR at hv
 simp only[List.mem_cons,List.not_mem_nil,or_false] at hv
 rcases hv with rfl|rfl<;>rfl
theorem xF{xs:List Ref}: ∀v∈xs.flatMap encR,v.oneCell'=true:=λv hv=>by
 obtain⟨x,_,hx⟩:=List.mem_flatMap.1 hv
 exact vB x v hx
theorem Cr(xs:List Ref)(i:Nat):(xs.flatMap encR).take (i*2)=(xs.take i).flatMap encR:=by
 induction xs generalizing i with
 |nil=>simp
 |cons x r ih=>
  cases i with
  |zero=>simp
  |succ i=>
   rw[List.take_succ_cons,List.flatMap_cons,List.flatMap_cons,List.take_append,cw,show(i+1)*2-2=i*2 by omega,ih,List.take_of_length_le (by rw[cw];omega)]
theorem Cy(xs:List Ref)(i:Nat):(xs.flatMap encR).drop (i*2)=(xs.drop i).flatMap encR:=by
 induction xs generalizing i with
 |nil=>simp
 |cons x r ih=>
  cases i with
  |zero=>simp
  |succ i=>
   rw[List.drop_succ_cons,List.flatMap_cons,List.drop_append,cw,show(i+1)*2-2=i*2 by omega,ih,List.drop_of_length_le (by rw[cw];omega),List.nil_append]
theorem A4{xs:List Ref}{x:Ref}{i:Nat}{A B:List Value}(hi:i<=xs.length)(hA:A=(xs.take i).flatMap encR++encR x):(A++(xs.drop i).flatMap encR++B).take ((xs.take i++x::xs.drop i).length*2)=(xs.take i++x::xs.drop i).flatMap encR:=by
 have e:(xs.take i++x::xs.drop i).flatMap encR=A++(xs.drop i).flatMap encR:=by
  rw[hA,List.flatMap_append,List.flatMap_cons,List.append_assoc]
 have hl:(A++(xs.drop i).flatMap encR).length=(xs.take i++x::xs.drop i).length*2:=by rw[←e];exact dv cw _
 rw[e,List.take_append_of_le_length (Nat.le_of_eq hl.symm),←hl,List.take_length]
theorem L6{xs:List Ref}{x:Ref}{i:Nat}(hi:i<=xs.length):(xs.take i++x::xs.drop i).length=xs.length+1:=by
 rw[List.length_append,List.length_take,List.length_cons,List.length_drop];omega
theorem pU{xs:List Ref}{i:Nat}{cur:List Value}(hi:i<=xs.length)(hct:cur.take (xs.length*2)=xs.flatMap encR):cur.take (i*2)=(xs.take i).flatMap encR:=by
 rw[←Cr,←hct,List.take_take,Nat.min_eq_left ao]
theorem E4{xs:List Ref}{i j:Nat}{cur:List Value}{u:Value}(hct:cur.take (xs.length*2)=xs.flatMap encR)(hj:((xs.drop i).flatMap encR)[j]? =some u):cur[i*2+j]? =some u:=by
 rw[←Cy,List.getElem?_drop,←hct] at hj
 have hlt:=(List.getElem?_eq_some_iff.1 hj).1
 rw[List.length_take] at hlt
 rwa [List.getElem?_take_of_lt ao] at hj
theorem Q5{xs:List Ref}{x:Ref}{i:Nat}{cur zs:List Value}(hi:i<=xs.length)(hct:cur.take (xs.length*2)=xs.flatMap encR):((cur.take (i*2)++zs).take (i*2)++encR x++(cur.take (i*2)++zs).drop (i*2+(encR x).length)).take ((i+1)*2)=(xs.take i).flatMap encR++encR x:=by
 have hl:(cur.take (i*2)).length=i*2:=by rw[pU hi hct,dv cw,List.length_take];omega
 rw[List.take_append_of_le_length (l₁:=cur.take (i*2)) (Nat.le_of_eq hl.symm),List.take_of_length_le (l:=cur.take (i*2)) (Nat.le_of_eq hl),pU hi hct]
 have hl2:((xs.take i).flatMap encR++encR x).length=(i+1)*2:=by rw[←pU hi hct,List.length_append,hl,cw];omega
 rw[List.take_append_of_le_length (Nat.le_of_eq hl2.symm),←hl2,List.take_length]
theorem QD{xs:List Ref}{x:Ref}{i:Nat}{cur B:List Value}(hi:i<xs.length)(hc:(i+1)*2<=cur.length)(hct:cur.take (xs.length*2)=xs.flatMap encR):
 (cur.take ((i+1)*2)++(xs.drop i).flatMap encR++B).take (i*2)++encR x++(cur.take ((i+1)*2)++(xs.drop i).flatMap encR++B).drop (i*2+(encR x).length)=(xs.take i).flatMap encR++encR x++(xs.drop i).flatMap encR++B:=by
 have hl:(cur.take ((i+1)*2)).length=(i+1)*2:=by rw[List.length_take];omega
 have e1:(cur.take ((i+1)*2)++(xs.drop i).flatMap encR++B).take (i*2)=(xs.take i).flatMap encR:=by
  rw[List.append_assoc,List.take_append_of_le_length ao,List.take_take,Nat.min_eq_left ao,pU (Nat.le_of_lt hi) hct]
 have e2:(cur.take ((i+1)*2)++(xs.drop i).flatMap encR++B).drop (i*2+(encR x).length)=(xs.drop i).flatMap encR++B:=by
  rw[cw,List.append_assoc,show i*2+2=(cur.take ((i+1)*2)).length by rw[hl];omega,List.drop_left]
 rw[e1,e2]
 simp only[List.append_assoc]
section
variable{R:List RO}{O O':List Own}{POST:Value->List RO->List Own->Prop}
set_option maxRecDepth 20000 in
set_option maxHeartbeats 1000000 in
theorem Av{xs:List Ref}{x:Ref}{v:Value}{b i:Nat}(hi:i<=xs.length)(hl:xs.length<=100)
 (hk: ∀v',bL v'->POST v' R (bt 101 2 encR v' (xs.take i++x::xs.drop i)::O)):
 Fun Tryz.prog 78 #[v,.int .i64 (i:Int),.slice (some ⟨b,0,none⟩) 1 1] R (bt 101 2 encR v xs::az b 101 (encR x)::O) POST:=by
 refine bp ?_
 have hil:=L6 (x:=x) hi
 refine aC (l:=[_,_,_]) Tryz.func78 rfl Tryz.ntmps78 rfl (L0:=[(0,_),(1,_),(2,_)]) rfl ?_
 refine aD<|ar rfl<|a7<|af rfl<|af rfl<|ab rfl (Hf (enc:=encR) (xs:=xs) (lo:=i) rfl S46 rfl rfl rfl aK hi) ?_
 refine a7<|af rfl<|ab rfl (by exact Rd.len rfl rfl Tryz.underlying46) ?_
 refine ar rfl<|aw<|bd<|af rfl<|ab rfl (Rd.eql rfl rfl rfl)<|aw<|aE rfl (λhc1=>?_) (λhc1=>?_)
 ·
  exact absurd hc1 ct
 ·
  refine ay<|aa<|aD<|af rfl<|ab rfl (fB (enc:=encR) (xs:=xs) rfl rfl Tryz.underlying46 aK) ?_
  refine ar rfl<|aw<|bd<|af rfl<|af rfl<|ab rfl (Rd.eql rfl rfl rfl)<|aw<|aE rfl (λhc2=>?_) (λhc2=>?_)
  ·
   refine aF<|WC.heap (λw h=>Sat.gC (b:=b) (enc:=encR) (xs:=[x]) bh rfl rfl (show(1:Nat)<=9223372036854775807 by decide) h) ?_
   refine aB<|af rfl<|af rfl<|aq rfl<|c7 (enc:=encR) rfl S46 Tryz.underlying46 rfl rfl bh aK ie ie (by exact⟨by simp only[maxLen,List.length_append,List.length_nil,List.length_cons,List.length_drop,List.length_take,List.length_map];omega,by(simp only[List.length_append,List.length_nil,List.length_cons,List.length_drop,List.length_take,List.length_map];omega)⟩) rfl rfl ?_;intro v25 hv25
   refine ar rfl<|aw ?_
   obtain rfl:i=xs.length:=by omega
   rw[List.take_length,List.drop_length] at hk
   refine WC.ret (au.fJ (Ret.one Tryz.results78 rfl ?_))
   exact⟨_,_,hk v25 hv25,bN⟩
  ·
   have hin:i<xs.length:=by omega
   refine vS (enc:=encR) (xs:=xs) (size:=2) (e:=101) bh ao ?_
   rintro g cap cur rfl hnc hcm hcl hct
   refine ay<|aa<|bd<|af rfl<|af rfl<|ab rfl (Rd.add rfl rfl rfl ao) ?_
   refine af rfl<|ab rfl (Ns rfl rfl Tryz.underlying46)<|ab rfl (Rd.gtr rfl rfl rfl)<|aw<|aE rfl (λhc3=>?_) (λhc3=>?_)
   ·
    have hcc:cap<xs.length+1:=by omega
    refine aD<|af rfl<|af rfl<|ab rfl (rL (ad:=some ⟨g,0,none⟩) (m:=xs.length) (cp:=cap) (hi:=i) rfl S46 rfl rfl rfl (λh=>by cases h) ao) ?_
    refine aU 34 (u:=.slice (some ⟨g,0,none⟩) i cap) rfl (Ce ..) ?_
    refine af rfl<|af rfl<|ab rfl (Rd.add rfl rfl rfl ao) ?_
    refine af rfl<|ab rfl (Rd.sub rfl rfl rfl ao) ?_
    refine aq rfl<|OpW.GC (kn:=.i64) (m:=i) (j:=xs.length+1-i) rfl S46 Tryz.underlying3 rfl rfl ao aK (by rw[hcl];omega) ao ao ⟨by show _<=9223372036854775807;omega,by omega⟩ rfl rfl ?_;intro b2 c2 zs hz1 hz2 hz3
    have hz1':xs.length+1<=c2:=by omega
    have hcu:(cur.take (i*2)).length=i*2:=by rw[pU hi hct,dv cw,List.length_take];omega
    refine aU 40 (u:=.slice (some ⟨b2,0,none⟩) (xs.length+1) c2) rfl (by rw[show i+(xs.length+1-i)=xs.length+1 by omega]) ?_
    refine ar rfl<|a7<|af rfl<|af rfl<|ab rfl (ij (ad:=some ⟨b2,0,none⟩) (m:=xs.length+1) (cp:=c2) (lo:=i) rfl S46 rfl rfl rfl (λh=>by cases h) ao) ?_
    refine aU 43 (u:=.slice (some ⟨b2,i*2,none⟩) (xs.length+1-i) (c2-i)) rfl (kf ao) ?_
    refine af rfl<|aq rfl<|OpW.p4 (m:=1) (cs:=encR x) rfl S46 rfl rfl bh (Nat.min_eq_left ao) rfl (λw hR hO j u hj=>by rw[cr rfl,Nat.zero_add];exact cy (hO _ aK) hj) (by rw[List.length_append,hcu,hz3,cw];omega) (vB x) rfl rfl ?_
    refine aw<|aF<|WC.tail 8 mixed an ?_
    refine bn rfl (al rfl rfl)<|bn rfl (al rfl rfl)<|bn rfl (al rfl rfl)<|bn rfl (Rd.add rfl rfl rfl ao) ?_
    refine bn rfl (ij (ad:=some ⟨b2,0,none⟩) (m:=xs.length+1) (cp:=c2) (lo:=i+1) rfl S46 rfl rfl (by push_cast;rfl) (λh=>by cases h) ao) ?_
    refine WS.say 50 (u:=.slice (some ⟨b2,(i+1)*2,none⟩) (xs.length+1-(i+1)) (c2-(i+1))) rfl (kf ao) ?_
    refine bn rfl (al rfl rfl)<|bn rfl (al rfl rfl)<|bn rfl (ij (ad:=some ⟨g,0,none⟩) (m:=xs.length) (cp:=cap) (lo:=i) rfl S46 rfl rfl rfl (λh=>by cases h) ao) ?_
    refine WS.say 53 (u:=.slice (some ⟨g,i*2,none⟩) (xs.length-i) (cap-i)) rfl (kf ao) ?_
    refine dm<|aq rfl<|OpW.p4 (m:=xs.length-i) (cs:=(xs.drop i).flatMap encR) rfl S46 rfl rfl bh (by rw[show xs.length+1-(i+1)=xs.length-i by omega];exact Nat.min_self _) (by rw[dv cw,List.length_drop]) (λw hR hO j u hj=>by rw[cr rfl];exact cy (hO _ aK) (E4 hct hj)) (by rw[dv cw,List.length_drop];simp only[List.length_append,List.length_drop,List.length_take,cw,hz3];omega) xF rfl rfl ?_
    refine a7<|af rfl<|ar rfl<|aw ?_
    skip
    refine WC.ret (au.fJ (Ret.one Tryz.results78 rfl ?_))
    exact⟨_,_,hk (.slice (some ⟨b2,0,none⟩) (xs.length+1) c2) bL.sl,λw h=>by
    have h2:=mV (xs:=xs.take i++x::xs.drop i) (enc:=encR) (size:=2) (g:=b2) (cap:=c2) bh cw (by rw[hil];omega) hz2 (by simp only[List.length_append,List.length_drop,List.length_take,dv cw,cw,hz3];omega) (A4 hi (Q5 hi hct)) h
    rw[hil] at h2
    exact dj h2⟩
   ·
    have hcc:xs.length+1<=cap:=by omega
    refine ay<|aa<|aD<|af rfl<|af rfl<|af rfl<|ab rfl (Rd.add rfl rfl rfl ao) ?_
    refine ab rfl (rL (ad:=some ⟨g,0,none⟩) (m:=xs.length) (cp:=cap) (hi:=xs.length+1) rfl S46 rfl rfl (by push_cast;rfl) (λh=>by cases h) ao) ?_
    refine aU 60 (u:=.slice (some ⟨g,0,none⟩) (xs.length+1) cap) rfl (Ce ..) ?_
    refine ar rfl<|aw<|aF<|aF<|Nr (λw h=>wo (b:=b) (g:=g) (e1:=101) (e2:=101) (c1:=encR x) (c2:=cur) bh aK h) λhbg=>?_
    refine aB<|af rfl<|af rfl<|af rfl<|af rfl<|ab rfl (Rd.add rfl rfl rfl ao) ?_
    refine ab rfl (ij (ad:=some ⟨g,0,none⟩) (m:=xs.length+1) (cp:=cap) (lo:=i+1) rfl S46 rfl rfl (by push_cast;rfl) (λh=>by cases h) ao) ?_
    refine aU 66 (u:=.slice (some ⟨g,(i+1)*2,none⟩) (xs.length+1-(i+1)) (cap-(i+1))) rfl (kf ao) ?_
    refine aq rfl<|OpW.rd rfl rfl (Dw (ef:=Extern.SlicesOverlaps.overlaps #[46,46] #[4]) rfl rfl aZ Tryz.func135 an an an an (λw hO=>z6 S46 (e1:=101) (e2:=101) (c1:=encR x) (c2:=cur) aK aK hbg (λe=>by rw[e] at hcl;simp at hcl;omega) hO)) ?_
    refine ab rfl (by exact Rd.not rfl rfl) ?_
    refine aw<|WC.cond rfl (λhc4=>?_) (λhc4=>?_)
    ·
     refine aF<|WC.tail 8 mixed an ?_
     refine bn rfl (al rfl rfl)<|bn rfl (al rfl rfl)<|bn rfl (al rfl rfl)<|bn rfl (Rd.add rfl rfl rfl ao) ?_
     refine bn rfl (ij (ad:=some ⟨g,0,none⟩) (m:=xs.length+1) (cp:=cap) (lo:=i+1) rfl S46 rfl rfl (by push_cast;rfl) (λh=>by cases h) ao) ?_
     refine WS.say 73 (u:=.slice (some ⟨g,(i+1)*2,none⟩) (xs.length+1-(i+1)) (cap-(i+1))) rfl (kf ao) ?_
     refine bn rfl (al rfl rfl)<|bn rfl (al rfl rfl)<|bn rfl (ij (ad:=some ⟨g,0,none⟩) (m:=xs.length+1) (cp:=cap) (lo:=i) rfl S46 rfl rfl rfl (λh=>by cases h) ao) ?_
     refine WS.say 76 (u:=.slice (some ⟨g,i*2,none⟩) (xs.length+1-i) (cap-i)) rfl (kf ao) ?_
     refine dm<|aq rfl<|OpW.p4 (m:=xs.length-i) (cs:=(xs.drop i).flatMap encR) rfl S46 rfl rfl bh (by rw[show xs.length+1-(i+1)=xs.length-i by omega];exact Nat.min_eq_right ao) (by rw[dv cw,List.length_drop]) (λw hR hO j u hj=>by rw[cr rfl];exact cy (hO _ aK) (E4 hct hj)) (by rw[dv cw,List.length_drop,hcl];omega) xF rfl rfl ?_
     refine a7<|af rfl<|af rfl<|ab rfl (ij (ad:=some ⟨g,0,none⟩) (m:=xs.length+1) (cp:=cap) (lo:=i) rfl S46 rfl rfl rfl (λh=>by cases h) ao) ?_
     refine aU 80 (u:=.slice (some ⟨g,i*2,none⟩) (xs.length+1-i) (cap-i)) rfl (kf ao) ?_
     refine af rfl<|aq rfl<|OpW.p4 (m:=1) (cs:=encR x) rfl S46 rfl rfl bh (Nat.min_eq_left ao) rfl (λw hR hO j u hj=>by rw[cr rfl,Nat.zero_add];exact cy (hO _ aK) hj) (by simp only[List.length_append,List.length_drop,List.length_take,dv cw,cw,hcl];omega) (vB x) rfl rfl ?_
     refine a7<|af rfl<|ar rfl<|aw ?_
     skip
     refine WC.ret (au.fJ (Ret.one Tryz.results78 rfl ?_))
     exact⟨_,_,hk (.slice (some ⟨g,0,none⟩) (xs.length+1) cap) bL.sl,λw h=>by
     rw[QD hin (by rw[hcl];omega) hct] at h
     have h2:=mV (xs:=xs.take i++x::xs.drop i) (enc:=encR) (size:=2) (g:=g) (cap:=cap) bh cw (by rw[hil];omega) hcm (by simp only[List.length_append,List.length_drop,List.length_take,dv cw,cw,hcl];omega) (A4 hi rfl) h
     rw[hil] at h2
     exact dj h2⟩
    ·
     cases hc4
end
end Go.Proofs.YtebpkhlifcffnaaGreatDoor.Fs
