/-
  Part 7 of the texts that the law TopTogether is proved with: Fw6, Fw7, Fw8, Fw9, Fwa, Fwb, Fwc, Fwd, Fwe, Fwf, Tg2, Re2, Re3, Re4, Tg3, Etreads, Etmakes, Etstores, Etsplits, Etobjects, Etlies, Etshelved, Etrefers, Tg4, Tg5, Ek4. No premise.
-/
import Derived.Test.YtebpkhlifcffnaaGreatDoorZ6
import Derived.KernelRfl
namespace Go.Proofs.YtebpkhlifcffnaaGreatDoor.Fs
open Go Go.SL
section
variable{R:List RO}{O:List Own}{POST:Value->List RO->List Own->Prop}{s d l mb un files k:Nat}{sp:Nat->Bool}{m:aO Tx MI}{V:DV}{D:DSt}
set_option maxRecDepth 20000 in
theorem A7{v:Value}{bs:List Bool}(hO:bt 4 1 (SL.one vbl) v bs∈O)(hl:bs.length<=100000)(hk1: ∀e:Nat,e<bs.length->bs[e]! =false->POST (.int .i64 (e:Int)) R O)(hk2:(∀e,e<bs.length->bs[e]! =true)->POST (.int .i64 (-1)) R O):
 Fun Tryz.prog 123 #[v,.bool false] R O POST:=by
 refine bp<|aC (l:=[_,_]) Tryz.func123 rfl Tryz.ntmps123 rfl (L0:=[(0,_),(1,_)]) rfl ?_
 refine aD<|ar rfl<|aw<|bd<|af rfl<|ab rfl (fB (enc:=SL.one vbl) (xs:=bs) rfl rfl Tryz.underlying213 hO) ?_
 refine af rfl<|aw<|WC.block ?_
 refine WC.pick [8,0,1,7] eS ?_
 refine WC.lx 1 (λ(j:Nat)=>[(8,.int .i64 (j:Int))]) (λ(j:Nat)=>j<=bs.length/\ ∀e,e<j->bs[e]! =true) (λ(j:Nat)=>bs.length-j) (0) iw ?hinv1 cC (λ_ h=>h) ?_
 case hinv1=>
  exact⟨Nat.zero_le _,λe h=>absurd h (Nat.not_lt_zero _)⟩
 intro j
 rintro⟨j1,j2⟩
 refine aD<|ab rfl (Rd.lss rfl rfl rfl)<|aw ?_
 refine aF<|aE rfl (λhc1=>?_) (λhc1=>?_)
 ·
  refine ay<|aa<|aF<|WC.block ?_
  refine aD<|af rfl<|ar rfl<|a7<|af rfl<|af rfl<|af rfl<|ab rfl (kT (enc:=SL.one vbl) (xs:=bs) (k:=j) rfl Oq rfl rfl rfl hO ao) ?_
  refine ab rfl (zi (g:=vbl) (xs:=bs) (k:=j) (a:=bs[j]!) rfl C4 rfl hO (get!_of_lt ao)) ?_
  refine ab rfl (zh rfl rfl rfl Tryz.underlying4)<|aU 16 (u:=.bool (decide (bs[j]! =false))) rfl (by cases bs[j]! <;>rfl) ?_
  refine aw<|aE rfl (λhc2=>?_) (λhc2=>?_)
  ·
   refine aD<|af rfl<|ar rfl<|aw ?_
   refine WC.ret (aH.fJ (au.fJ (bq.fJ (aH.fJ (au.fJ (Ret.one Tryz.results123 rfl ?_))))))
   exact⟨_,_,hk1 j ao hc2,bN⟩
  ·
   refine ay<|aA<|aa<|aB<|ab rfl (Rd.add rfl rfl rfl ao) ?_
   exact af rfl<|aG<|bq.mk (j+1) ⟨by omega,λe he=>by
   rcases Nat.lt_or_ge e j with h|h
   ·exact j2 e h
   ·obtain rfl:e=j:=by omega
    simpa using hc2⟩ ao cC (λ_ h=>h)
 ·
  refine WC.exit<|au.exit<|bq.exit<|aH.exit<|aa<|aD<|ar rfl<|aw ?_
  refine WC.ret (Ret.one Tryz.results123 rfl ?_)
  exact⟨_,_,hk2 (λe he=>j2 e ao),bN⟩
theorem DK{m:aO Tx MI}{x:Tx×MI×Nat}(h:x∈m.l):m.get x.1=some x.2.1:=aO.kZ.2 ⟨x.2.2,h⟩
structure Vac(m:aO Tx MI)(files:Nat)(bs:List Bool)(seen:List Nat):Prop where
 len:bs.length=files
 nd:seen.Nodup
 sub: ∀t∈seen,t∈m.l.map (·.2.2)
 yes: ∀x∈m.l,x.2.2∈seen->bs[x.2.1.1]! =true
 of: ∀e,e<files->bs[e]! =true-> ∃b q,m.get b=some q/\q.1=e
theorem Ca{bs:List Bool}{m j:Nat}(hj:j<bs.length):(bs.set m true)[j]! =if m=j then true else bs[j]! :=by
 rw[getElem!_pos _ j (by rw[List.length_set];exact hj),List.getElem_set,←getElem!_pos bs j hj]
theorem I0{bs:List Bool}{m j:Nat}(h:bs[j]! =true):(bs.set m true)[j]! =true:=by
 rcases Nat.lt_or_ge j bs.length with hj|hj
 ·rw[Ca hj,h];split<;>rfl
 ·rw[List.getElem!_eq_getElem?_getD,List.getElem?_eq_none hj] at h;cases h
theorem Vac.lt{m:aO Tx MI}{bs:List Bool}{seen:List Nat}(h:Vac m files bs seen){x:Tx×MI×Nat}(h1:x∈m.l)(h2:x.2.2∉seen):seen.length<m.l.length:=by
 have hn:(seen++[x.2.2]).Nodup:=by
  rw[List.nodup_append]
  exact⟨h.nd,by simp,λa ha b hb e=>by rw[List.mem_singleton.1 hb] at e;exact h2 (e▸ha)⟩
 have:=lG hn (l':=m.l.map (·.2.2)) (λt ht=>by
  rcases List.mem_append.1 ht with ht|ht
  ·exact h.sub t ht
  ·rw[List.mem_singleton.1 ht];exact List.mem_map_of_mem h1)
 rw[List.length_append,List.length_map] at this
 simp at this;omega
theorem Vac.step{m:aO Tx MI}{bs:List Bool}{seen:List Nat}(h:Vac m files bs seen){x:Tx×MI×Nat}(h1:x∈m.l)(h2:x.2.2∉seen)(hx:x.2.1.1<files):Vac m files (bs.set x.2.1.1 true) (seen++[x.2.2]) where
 len:=by rw[List.length_set];exact h.len
 nd:=by
  rw[List.nodup_append]
  exact⟨h.nd,by simp,λa ha b hb e=>by rw[List.mem_singleton.1 hb] at e;exact h2 (e▸ha)⟩
 sub:=λt ht=>by
  rcases List.mem_append.1 ht with ht|ht
  ·exact h.sub t ht
  ·rw[List.mem_singleton.1 ht];exact List.mem_map_of_mem h1
 yes:=λy hy hs=>by
  rcases List.mem_append.1 hs with hs|hs
  ·exact I0 (h.yes y hy hs)
  ·have:=aO.oo (f:=λx:Tx×MI×Nat=>x.2.2) m.born hy h1 (List.mem_singleton.1 hs)
   subst this
   rw[Ca (by rw[h.len];exact hx),if_pos rfl]
 of:=λe he hb=>by
  by_cases hxe:x.2.1.1=e
  ·exact⟨x.1,x.2.1,DK h1,hxe⟩
  ·rw[Ca (by rw[h.len];exact he),if_neg hxe] at hb
   exact h.of e he hb
set_option maxRecDepth 20000 in
set_option maxHeartbeats 1000000 in
theorem AH(hall:allM m∈R)(hf:files<=1000)(hlt: ∀b q,m.get b=some q->q.1<files)(hfree: ∃e,e<files/\ ∀b q,m.get b=some q->q.1≠e)
 (hk: ∀e:Nat,e<files->(∀b q,m.get b=some q->q.1≠e)->POST (.tuple #[.int .i64 (e:Int),.bool true]) R (stO s d l mb un files sp false m V D O)):
 Fun Tryz.prog 62 #[dp s] R (stO s d l mb un files sp false m V D O) POST:=by
 refine bp<|Fun.oR (φ:= ∀b q,m.get b=some q->bL q.2.2.1) hall (λw h b q hq=>SlE.sJ (h b q hq)) λhone=>?_
 refine aC (l:=[_]) Tryz.func62 rfl Tryz.ntmps62 rfl (L0:=[(0,_)]) rfl ?_
 refine aD<|ar rfl<|ar rfl<|a7<|af rfl<|ab rfl (aL rfl rfl)<|ab rfl (by exact ak rfl DE rfl rfl) ?_
 refine ab rfl (ax (off:=5) (u:=.int .i64 (files:Int)) rfl C3 rfl aK rfl) ?_
 refine aq rfl<|kc (z0:=vbl false) (m:=files) (c:=files) rfl Oq rfl rfl rfl rfl rfl (Nat.le_refl _) ao ao rfl rfl ?_;intro b12
 refine WL.heap (λw h=>Sat.lz (enc:=SL.one vbl) (size:=1) (m:=files) (xs:=List.replicate files false) bh (by rw[dG,List.map_replicate]) (by simp) (λ_=>rfl) ao h) ?_
 refine ar rfl<|aw<|bd<|af rfl<|ab rfl (aL rfl rfl)<|ab rfl (by exact ak rfl ua rfl rfl) ?_
 refine ab rfl (ax (off:=4) (u:=.map (some mb)) rfl C72 rfl aK rfl) ?_
 refine aq rfl<|BM (kenc:=vs) (venc:=miV) (m:=m) M72 rfl rfl aK rfl rfl ?_;intro it
 refine aw<|WC.block ?_
 refine WC.pick [4,17] eS ?_
 refine WC.ia 0 (λ(bs:List Bool) (seen:List Nat)=>[]) (λ(bs:List Bool) (seen:List Nat)=>fe it mb m.clock seen::bt 4 1 (SL.one vbl) (.slice (some ⟨b12,0,none⟩) files files) bs::stO s d l mb un files sp false m V D O) (λ(bs:List Bool) (seen:List Nat)=>Vac m files bs seen) (λ(bs:List Bool) (seen:List Nat)=>m.l.length-seen.length) (List.replicate files false) ([]) iw ?hinv1 cC (λ_ h=>h) ?_
 case hinv1=>
  exact⟨by simp,List.nodup_nil,λt h=>(by cases h),λx _ h=>(by cases h),λe he h=>by simp[he] at h⟩
 intro bs seen
 rintro⟨i1,i2,i3,i4,i5⟩
 refine aD<|aq rfl<|DC (kenc:=vs) (venc:=miV) (m:=m) (seen:=seen) rfl rfl aK bh rfl rfl ?_;intro r hr
 refine ab rfl (xW rfl rfl)<|aw<|aF<|aE rfl (λhc1=>?_) (λhc1=>?_)
 ·
  obtain⟨x,rfl⟩:=Option.isSome_iff_exists.1 hc1
  refine ay<|aa<|WC.block ?_
  refine aD<|aq rfl<|OpW.rd rfl rfl (DD (kenc:=vs) (venc:=miV) (m:=m) (q:=x) (seen:=seen) rfl rfl aK aK hr.1 rfl) ?_
  have hxg:=DK hr.1
  have hx1:=hone _ _ hxg
  have hxe:=hlt _ _ hxg
  refine bH rfl<|aq rfl<|OpW.alloc rfl lA rfl ba rfl rfl ?_;intro b6
  refine aq rfl<|aM (h1:=by simp only[List.all_cons,List.all_nil,hx1.one];rfl) rfl iM rfl rfl ba bh rfl rfl ba rfl ?_
  refine lE<|af rfl<|ab rfl (by exact ak rfl rD rfl rfl) ?_
  refine ab rfl (by exact ax rfl C3 rfl aK (by rfl)) ?_
  refine ab rfl (kT (enc:=SL.one vbl) (xs:=bs) (k:=x.2.1.1) rfl Oq rfl rfl rfl aK ao) ?_
  refine aq rfl<|j0 (k:=x.2.1.1) (a:=true) rfl Z4 rfl rfl rfl rfl bh ao rfl ?_
  exact aG<|aA<|bC.mk (bs.set x.2.1.1 true) (seen++[x.2.2]) (Vac.step ⟨i1,i2,i3,i4,i5⟩ hr.1 hr.2 hxe) (by have:=Vac.lt ⟨i1,i2,i3,i4,i5⟩ hr.1 hr.2;rw[List.length_append];simp;omega) cC bN
 ·
  obtain rfl:r=none:=by
   cases r with
   |some x=>exact absurd rfl hc1
   |none=>rfl
  have hall2: ∀x∈m.l,x.2.2∈seen:=hr
  refine WC.exit<|au.exit<|bC.exit<|aH.exit<|aa<|aD<|af rfl ?_
  refine aq rfl<|aj rfl rfl aZ an rfl rfl rfl ?_
  refine A7 (bs:=bs) aK ao (λe he hb=>?_) (λh=>(by
   obtain⟨e,h1,h2⟩:=hfree
   obtain⟨b,q,h3,h4⟩:=i5 e h1 (h e ao)
   exact absurd h4 (h2 b q h3)))
  refine ar rfl<|a7<|af rfl<|af rfl<|ab rfl (Rd.geq rfl rfl rfl)<|ar rfl<|ar rfl<|aw<|WC.ret (Ret.two Tryz.results62 rfl rfl ?_)
  refine⟨_,_,hk e ao (λb q hq hqe=>?_),?_⟩
  ·obtain⟨n',hn'⟩:=aO.kZ.1 hq
   have:=i4 _ hn' (hall2 _ hn')
   simp only at this
   rw[hqe,hb] at this
   cases this
  ·exact bN
end
end Go.Proofs.YtebpkhlifcffnaaGreatDoor.Fs
namespace Go.Proofs.YtebpkhlifcffnaaGreatDoor.Fs
open Go Go.SL
section
variable{R:List RO}{O:List Own}{POST:Value->List RO->List Own->Prop}{s d l mb un files k:Nat}{sp:Nat->Bool}{m:aO Tx MI}{V:DV}{D:DSt}
theorem Dd{L:List Tx}{l:List Nat}{j:Nat}(h:j<l.length):dB L (l.take (j+1))=dB L (l.take j)++L[l[j]!]! :=by
 rw[List.take_add_one,get!_of_lt h,j5]
 show _++dB L [l[j]!]=_
 rw[rl]
set_option maxRecDepth 20000 in
set_option maxHeartbeats 2000000 in
theorem FO{n:Nat}{name:Tx}{q:MI}(hmg:m.get name=some q)(hi:Mnt n files (eB m) sp D)(hfs:files<=256)(dk:Dk D k)(hk0:k<=4294967296)(hall:allM m∈R)
 (hk:POST (.tuple #[vs (jy D.aJ (7+files) (miI q)),.int .i64 0]) R (stO s d l mb un files sp false m V D O)):
 Fun Tryz.prog 32 #[dp s,vs name] R (stO s d l mb un files sp false m V D O) POST:=by
 refine bp ?_
 rw[fP] at hk
 have hF:eB m name=some (miI q):=by unfold eB;rw[hmg];rfl
 have hio:=hi.inv.fok.ok name _ hF
 have hn:=hio.n
 have hxl:=hio.len
 have hsec: ∀i∈bT (7+files) q.2.2.2,7+files<=i/\i<D.aJ.length:=jO hi.inv hF
 have hlen:=hi.inv.len
 have hsl:(bT (7+files) q.2.2.2).length=bc q.2.1:=by rw[dC];exact hio.sum
 have hn':q.2.1<=1048576:=hn
 have hlen2: ∀j,j<=(bT (7+files) q.2.2.2).length->(dB D.aJ ((bT (7+files) q.2.2.2).take j)).length=512*j:=λj hj=>by
  rw[lM hi.inv.w (λi h=>(hsec i (List.mem_of_mem_take h)).2),List.length_take,Nat.min_eq_left hj]
 refine aC (l:=[_,_]) Tryz.func32 rfl Tryz.ntmps32 rfl (L0:=[(0,_),(1,_)]) rfl ?_
 refine aD<|ar rfl<|ar rfl<|aw ?_
 refine aF<|WC.oR (p:=allM m) hall (φ:=bL q.2.2.1) (λw h=>SlE.sJ (h name q hmg)) ?_
 intro hone
 refine aB<|af rfl<|af rfl<|aq rfl<|aj rfl rfl aZ an rfl rfl rfl ?_
 refine rj hmg hio.iU hi.cl.off hall ?_
 refine af rfl<|bH rfl<|bH rfl<|aq rfl<|OpW.alloc rfl lA rfl ba rfl rfl ?_;intro b6
 refine aq rfl<|aM (h1:=by simp only[List.all_cons,List.all_nil,hone.one];rfl) rfl iM rfl rfl ba bh rfl rfl ba rfl ?_
 refine ar rfl<|aw<|bd<|af rfl<|ab rfl (Rd.neq rfl rfl rfl)<|aw<|aE rfl (λhc1=>?_) (λhc1=>?_)
 ·
  exact absurd rfl hc1
 ·
  refine ay<|aa<|aD<|aq rfl<|OpW.alloc rfl wa rfl ba rfl rfl ?_;intro b8
  refine aw<|bd<|af rfl<|ab rfl (by exact ak rfl fm rfl rfl) ?_
  refine ab rfl (by exact ax rfl kW rfl aK (by rfl)) ?_
  refine aq rfl<|aj rfl rfl aZ an rfl rfl rfl ?_
  refine iz (files:=files) (xs:=q.2.2.2) aK aK rfl ao (by have:q.2.2.2.length<=64:=hxl;omega) (λx hx=>(hio.ext x hx).2) ?_;intro v25
  refine ab rfl (bu (enc:=SL.one vi) (xs:=eI (bT (7+files) q.2.2.2)) rfl rfl Tryz.underlying23 aK) ?_
  refine aU 26 (u:=.int .i64 ((bT (7+files) q.2.2.2).length:Int)) rfl (by rw[eA]) ?_
  refine af rfl<|WL.heap (λw h=>(h.dH (α:=UInt8) (e:=5) (size:=1) (enc:=SL.one vy))) ?_
  refine aw<|WC.block ?_
  refine WC.pick [27,0,6,8,25,26] eS ?_
  refine WC.rR 1 (λ(j:Nat) (p:Value) (v:Value)=>[(27,.int .i64 (j:Int))]) (λ(j:Nat) (p:Value) (v:Value)=>az b8 141 [p,v]::bt 5 1 (SL.one vy) v (dB D.aJ ((bT (7+files) q.2.2.2).take j))::az b6 126 (bV q.1 q.2.1 q.2.2.1)::stO s d l mb un files sp false m V D O) (λ(j:Nat) (p:Value) (v:Value)=>j<=(bT (7+files) q.2.2.2).length/\(p= .pointer none∨p=fu b8 0)) (λ(j:Nat) (p:Value) (v:Value)=>(bT (7+files) q.2.2.2).length-j) (0) (.pointer none) (.slice none 0 0) iw ?hinv1 cC (λw h=>by rw[show dB D.aJ ((bT (7+files) q.2.2.2).take 0)=[] from rfl];exact dj h) ?_
  case hinv1=>
   exact⟨Nat.zero_le _,.inl rfl⟩
  intro j p v
  rintro⟨j1,j2⟩
  refine aD<|ab rfl (Rd.lss rfl rfl rfl)<|aw ?_
  refine aF<|aE rfl (λhc2=>?_) (λhc2=>?_)
  ·
   have hnx:=Dd (L:=D.aJ) (l:=bT (7+files) q.2.2.2) (j:=j) ao
   have hsj:=hsec _ (fg (l:=bT (7+files) q.2.2.2) (i:=j) ao)
   have hra:=lf hi.cl.off hi.cl.since hsj.2
   have hlj:=hlen2 j j1
   have hwj:(D.aJ[(bT (7+files) q.2.2.2)[j]!]!).length=512:=by rw[getElem!_pos D.aJ _ hsj.2];exact hi.inv.w _ (List.getElem_mem _)
   have hnl:bc q.2.1<=2048:=by unfold bc;omega
   refine ay<|aa<|aF<|WC.block ?_
   refine aD<|ab rfl (c9 (enc:=SL.one vi) (xs:=eI (bT (7+files) q.2.2.2)) (k:=j) rfl S23 rfl rfl rfl aK (by rw[eA];omega)) ?_
   refine ab rfl (Rd.get (g:=vi) (xs:=eI (bT (7+files) q.2.2.2)) (k:=j) (a:=(((bT (7+files) q.2.2.2)[j]! :Nat):Int)) rfl C3 rfl aK (tT ao)) ?_
   refine ar rfl<|a7<|af rfl<|ab rfl (aL rfl rfl)<|ab rfl (by exact ak rfl sn rfl rfl) ?_
   refine ab rfl (ax (off:=0) (u:=dp d) rfl C25 rfl (b:=s) aK rfl) ?_
   refine af rfl<|aq rfl<|aj rfl rfl aZ an rfl rfl rfl ?_
   refine Fun.heap (R':=SlE (SL.one vi) v25 (eI (bT (7+files) q.2.2.2))::SlE cW q.2.2.1 q.2.2.2::R) (O':=dO d V D (az b8 141 [p,v]::bt 5 1 (SL.one vy) v (dB D.aJ ((bT (7+files) q.2.2.2).take j))::az b6 126 (bV q.1 q.2.1 q.2.2.1)::oY s d l mb un files sp false::fl vs miV mb m::O)) bN ?_
   refine iY (dk.ok.mono ao) ?_
   rw[hra]
   dsimp only
   refine af rfl<|bH rfl<|bH rfl<|ar rfl<|ar rfl<|aw<|bd<|af rfl<|ab rfl (Rd.neq rfl rfl rfl)<|aw<|aE rfl (λhc3=>?_) (λhc3=>?_)
   ·
    exact absurd rfl hc3
   ·
    refine ay<|aa<|aB<|af rfl<|aq rfl<|aj rfl rfl aZ an rfl rfl rfl ?_
    refine Fun.heap (R':=SlE (SL.one vi) v25 (eI (bT (7+files) q.2.2.2))::SlE cW q.2.2.1 q.2.2.2::R) (O':=az b8 141 [p,v]::bt 5 1 (SL.one vy) v (dB D.aJ ((bT (7+files) q.2.2.2).take j))::az b6 126 (bV q.1 q.2.1 q.2.2.1)::stO s d l mb un files sp false m V D O) bN ?_
    refine lV (off:=0) j2 rfl rfl an ao ?_;intro v44 hv44
    refine aG<|aA<|aa<|aB<|ab rfl (Rd.add rfl rfl rfl ao) ?_
    refine af rfl<|WL.heap (λw h=>(h.dH (α:=UInt8) (e:=5) (size:=1) (enc:=SL.one vy))) ?_
    exact aG<|dN.mk (j+1) (fu b8 0) v44 ⟨by omega,.inr rfl⟩ ao cC (λw h=>by rw[hnx];exact dj h)
  ·
   obtain rfl:j=(bT (7+files) q.2.2.2).length:=by omega
   have hlj:=hlen2 _ (Nat.le_refl (bT (7+files) q.2.2.2).length)
   rw[List.take_length] at hlj⊢
   have hnl:q.2.1<=512*bc q.2.1:=by unfold bc;omega
   refine WC.exit<|au.exit<|dN.exit<|aH.exit<|aa<|aF<|WC.drawn (az b6 126 (bV q.1 q.2.1 q.2.2.1)::O) 6 rfl mixed ?_
   refine ae 1 rfl an aN rfl rfl rfl ((by exact ak rfl ix rfl rfl)) ?_
   refine ae 2 rfl an aN rfl rfl rfl ((by exact ax rfl C3 rfl aK (by rfl))) ?_
   refine aS 0 rfl an rfl ?_
   refine aj rfl rfl aZ an rfl rfl rfl ?_
   refine om (off:=0) rfl ?_
   refine⟨aN,?_⟩
   refine ae 3 rfl an aN rfl rfl rfl (gi (hi:=q.2.1) rfl Tryz.underlying9 rfl rfl rfl ao) ?_
   refine ae 4 rfl an aN rfl rfl rfl (Rd.assign rfl rfl) ?_
   refine ae 5 rfl an aN rfl rfl rfl (Rd.assign rfl rfl) ?_
   refine WD.done an ?_
   refine aa<|WC.ret (Ret.two Tryz.results32 rfl rfl ?_)
   exact⟨_,_,hk,bN⟩
end
end Go.Proofs.YtebpkhlifcffnaaGreatDoor.Fs
namespace Go.SL
open Go Go.MapKept
theorem OpW.EY{κ β:Type} [DecidableEq κ] {kenc:κ->Value}{venc:β->Value}{P:Program}{n:Sz}{o:Oper}{L:Env}{R:List RO}{O O':List Own}{K:Env->List RO->List Own->Prop}{t kt et:TypeId}{z:Value}{x y u:Operand}{m:aO κ β}{b:Nat}{k:κ}{kv:Value}{v:β}{vv:Value}(T:ku P t kt et z)(KT:gQ P kt kenc)(ho:o.op= .insert t x y u)(hx:ev L x=some (.map (some b)))(hy:ev L y=some kv)(hu:ev L u=some vv)(hT:Take (fl kenc venc b m) O O')(hk:kenc k=kv)(hv:venc v=vv)(hd:o.dst=none)
 (c:K L R (fl kenc venc b (m.set k v)::O')):OpW P n o L R O K:=by
 intro a w hf hs Q
 have hs':=hs.perm hT.perm
 have hp:iu kenc venc b m w:=hs'.see List.mem_cons_self
 unfold Oper.wp
 have hr:(execOp a.eval o).run P w= .ok .skip {w with heap:=w.heap.setIfInBounds b (.map ((m.set k v).l.map (ent kenc venc)).toArray (m.set k v).clock)}:=by
  simp only[execOp,ho,Sem.run_bind,hf.ev hx,hf.ev hy,hf.ev hu,←hk,←hv,tL T KT hp,Result.andThen_ok,Sem.run_pure]
 rw[hr,Oper.upon_skip,hd]
 exact⟨_,_,_,c,hf.none _,pY hs' _ hp⟩
end Go.SL
namespace Go.Proofs.YtebpkhlifcffnaaGreatDoor.Fs
open Go Go.SL
def lX(cm:aO Int Tx)(ks:List Int):List (Nat×Tx):=ks.map λk=>(k.toNat,(cm.get k).getD [])
theorem F1{cm:aO Int Tx}{ks:List Int}{j:Nat}(h:j<ks.length):lX cm (ks.take (j+1))=lX cm (ks.take j)++[(ks[j]!.toNat,(cm.get ks[j]!).getD [])]:=by
 rw[List.take_add_one,get!_of_lt h];unfold lX;rw[List.map_append];rfl
theorem Da{bs:Tx}{ch:List (Nat×Tx)}{c:Nat×Tx}:cL bs (ch++[c])=cL bs ch++[Ba c]:=by
 unfold cL;rw[List.map_append];rfl
theorem Gs(bs:Tx)(ch:List (Nat×Tx)):(cL bs ch).length=ch.length+1:=by unfold cL;rw[List.length_cons,List.length_map]
theorem RQ{n bytes:Nat}(h:n<=100000/\bytes<=100000):zG (n+1) bytes:=⟨by show _<=9223372036854775807;omega,by have:(n+1)*bytes<=100001*100000:=Nat.mul_le_mul ao h.2;omega⟩
section
variable{R:List RO}{O:List Own}{POST:Value->List RO->List Own->Prop}{s d l mb un files k:Nat}{sp:Nat->Bool}{m:aO Tx MI}{V:DV}{D:DSt}
set_option maxRecDepth 20000 in
set_option maxHeartbeats 4000000 in
theorem Bp{cb:Nat}{cm:aO Int Tx}{sp':Nat->Bool}(ht:ea∈R)(hlog:gP l d ((2+files:Nat):Int) 5∈R)(hcm:iu kI vs cb cm∈R)(hc1:1<=cm.l.length/\cm.l.length<=3)(hck: ∀x∈cm.ks,0<=x/\x<5000)
 (hfit:fS D ((2+files:Nat):Int) 5=true) (dk:Dk D k) (hm:k<=4294950000) (hv:VOk V D) (hkeep:SlE (SL.one vi) V.kv D.keep∈R)
 (hk0: ∀ks V',ks.Perm cm.ks->(cf D ((2+files:Nat):Int) 5 (cL (spB un sp') (lX cm ks))).2=0->VOk V' (cf D ((2+files:Nat):Int) 5 (cL (spB un sp') (lX cm ks))).1->V'.kv=V.kv->POST (.int .i64 0) R (stO s d l mb un files sp' false m V' (cf D ((2+files:Nat):Int) 5 (cL (spB un sp') (lX cm ks))).1 O))
 (hk1: ∀ks V',ks.Perm cm.ks->(cf D ((2+files:Nat):Int) 5 (cL (spB un sp') (lX cm ks))).2≠0->VOk V' (cf D ((2+files:Nat):Int) 5 (cL (spB un sp') (lX cm ks))).1->V'.kv=V.kv->POST (.int .i64 ((cf D ((2+files:Nat):Int) 5 (cL (spB un sp') (lX cm ks))).2:Nat)) R (stO s d l mb un files sp true m V' (cf D ((2+files:Nat):Int) 5 (cL (spB un sp') (lX cm ks))).1 O)):
 Fun Tryz.prog 126 #[dp s,spV un sp',.map (some cb)] R (stO s d l mb un files sp false m V D O) POST:=by
 refine bp ?_
 have hnil: ∀xs:List Int,xs.Perm cm.ks->xs.length=cm.l.length:=λxs h=>by rw[h.length_eq];simp[aO.ks]
 refine aC (l:=[_,_,_]) Tryz.func126 rfl Tryz.ntmps126 rfl (L0:=[(0,_),(1,_),(2,_)]) rfl ?_
 refine aD<|aq rfl<|OpW.box rfl rfl ba rfl rfl ?_;intro b4
 refine ar rfl<|a7<|ab rfl (by exact bj rfl G75 rfl aK ba rfl) ?_
 refine aq rfl<|aj rfl rfl aZ an rfl rfl rfl ?_
 refine yi ?_
 refine ab rfl (bO (ps:=[(0,_),(1,_)]) rfl II wj rfl aZ fy (by apply NFo.mk;repeat(first|exact NF.nil|apply NF.cons))) ?_
 refine aq rfl<|aX (ps:=[(0,_)]) rfl vg aZ rfl rfl fy an rfl rfl rfl ?_;intro b14
 refine WL.heap (λw h=>Sat.lz (enc:=jM) (size:=2) (m:=1) (xs:=[((1:Int),spB un sp')]) bh rfl rfl (λ_=>rfl) ao h) ?_
 refine ar rfl<|aw<|bd<|af rfl<|aq rfl<|aj rfl rfl aZ an rfl rfl rfl ?_
 refine Cs ?_;intro b16
 refine aq rfl<|aj rfl rfl aZ an rfl rfl rfl ?_
 refine GH (Ip (cb:=b16) hcm) an ao (λxs h=>⟨by rintro rfl;have:=hnil [] h;simp at this;omega,by rw[hnil xs h];omega⟩) (λc hc=>by rw[List.mem_singleton] at hc;subst hc;exact aK) ?_;intro v17 xs hxs
 have hksp:(srt xs).Perm cm.ks:=(List.mergeSort_perm _ _).trans hxs
 have hksl:=hnil _ hksp
 have hmem: ∀x∈srt xs,x∈cm.ks:=λx hx=>hksp.mem_iff.1 hx
 obtain⟨ks,hks⟩: ∃ks,ks=srt xs:=⟨_,rfl⟩
 rw[←hks] at hksp hksl hmem⊢
 refine ab rfl (fB (enc:=SL.one vi) (xs:=ks) rfl rfl Tryz.underlying23 aK) ?_
 refine af rfl<|aw<|WC.block ?_
 refine WC.pick [19,7,0,2,4,17,18] eS ?_
 refine WC.ia 2 (λ(j:Nat) (v:Value)=>[(19,.int .i64 (j:Int)),(7,v)]) (λ(j:Nat) (v:Value)=>bt 204 2 jM v (cL (spB un sp') (lX cm (ks.take j)))::yY v17 ks::az b4 75 (dD un sp')::stO s d l mb un files sp false m V D O) (λ(j:Nat) (v:Value)=>j<=ks.length/\bL v) (λ(j:Nat) (v:Value)=>ks.length-j) (0) (.slice (some ⟨b14,0,none⟩) 1 1) iw ?hinv1 cC bN ?_
 case hinv1=>
  exact⟨Nat.zero_le _,bL.sl⟩
 intro j v
 rintro⟨j1,j2⟩
 refine aD<|ab rfl (Rd.lss rfl rfl rfl)<|aw ?_
 refine aF<|aE rfl (λhc1=>?_) (λhc1=>?_)
 ·
  have hnx:=F1 (cm:=cm) (ks:=ks) (j:=j) ao
  obtain⟨hx0,hx1⟩:=hck _ (hmem _ (fg (l:=ks) (i:=j) ao))
  have hcl:(cL (spB un sp') (lX cm (ks.take j))).length<=4:=by rw[Gs];unfold lX;rw[List.length_map,List.length_take];omega
  have hroom:zG ((cL (spB un sp') (lX cm (ks.take j))).length+1) 24:=RQ ao
  refine ay<|aa<|aF<|WC.block ?_
  refine aD<|ab rfl (kT (enc:=SL.one vi) (xs:=ks) (k:=j) rfl S23 rfl rfl rfl aK ao) ?_
  refine ab rfl (zi (g:=vi) (xs:=ks) (k:=j) (a:=ks[j]!) rfl C3 rfl aK (get!_of_lt ao)) ?_
  refine ar rfl<|lE<|af rfl<|af rfl<|ab rfl (Rd.add rfl rfl rfl ao) ?_
  refine aU 25 (u:=.int .i64 ((2+ks[j]!.toNat:Nat):Int)) rfl (by congr 1;omega) ?_
  refine af rfl<|af rfl<|ab rfl (Dq (kenc:=kI) (venc:=vs) (m:=cm) (k:=ks[j]!) Mi K3 rfl rfl rfl hcm rfl) ?_
  refine aU 28 (u:=vs ((cm.get ks[j]!).getD [])) rfl (by cases cm.get ks[j]! <;>rfl) ?_
  refine ab rfl (bO (ps:=[(0,_),(1,_)]) rfl II wj rfl aZ fy (by apply NFo.mk;repeat(first|exact NF.nil|apply NF.cons))) ?_
  refine aq rfl<|aX (ps:=[(0,_)]) rfl vg aZ rfl rfl fy an rfl rfl rfl ?_;intro b30
  refine aq rfl<|bR (enc:=jM) rfl vg rfl rfl bh bh [Ba (ks[j]!.toNat,(cm.get ks[j]!).getD [])] rfl (by rfl) rfl ie ie (by assumption) rfl rfl ?_;intro v31 hv31
  refine ar rfl<|aG<|aA<|aa<|aB<|ab rfl (Rd.add rfl rfl rfl ao) ?_
  exact af rfl<|aG<|bC.mk (j+1) v31 ⟨by omega,hv31⟩ ao cC (λw h=>by rw[hnx,Da];exact dj h)
 ·
  obtain rfl:j=ks.length:=by omega
  rw[List.take_length]
  refine WC.heap (λw h=>Sat.eE (e:=204) (size:=2) (enc:=jM) (xs:=cL (spB un sp') (lX cm ks)) (v:=v) bh h) ?_
  have hk0:=λV'=>hk0 ks V' hksp
  have hk1:=λV'=>hk1 ks V' hksp
  obtain⟨C,hC⟩: ∃C,C=cf D ((2+files:Nat):Int) 5 (cL (spB un sp') (lX cm ks)):=⟨_,rfl⟩
  rw[←hC] at hk0 hk1
  refine WC.exit<|au.exit<|bC.exit<|aH.exit<|aa<|bd<|af rfl<|ab rfl (aL rfl rfl)<|ab rfl (by exact ak rfl Nu rfl rfl) ?_
  refine ab rfl (ax (off:=1) (u:=dp l) rfl C73 rfl (b:=s) aK rfl) ?_
  refine af rfl<|aq rfl<|aj rfl rfl aZ an rfl rfl rfl ?_
  refine Fun.heap (R':=SlE jM v (cL (spB un sp') (lX cm ks))::R) (O':=dO d V D (az b4 75 (dD un sp')::oY s d l mb un files sp false::fl vs miV mb m::O)) bN ?_
  refine Bv (f:=((2+files:Nat):Int)) (z:=5) (List.mem_cons_of_mem _ ht) (List.mem_cons_of_mem _ hlog) hfit List.mem_cons_self dk ao hv (List.mem_cons_of_mem _ hkeep) ?_
  rw[←hC]
  intro V' hv' hkv'
  refine ar rfl<|a7<|af rfl<|ab rfl (Rd.neq rfl rfl rfl)<|aw<|aE rfl (λhc2=>?_) (λhc2=>?_)
  ·
   have hne:C.2≠0:=by omega
   refine aD<|af rfl<|ab rfl (aL rfl rfl)<|ab rfl (by exact ak rfl J2 rfl rfl) ?_
   refine aq rfl<|aV rfl Z4 rfl rfl (by exact⟨rfl,rfl⟩) bh (by(simp;done)) rfl ?_
   refine a7<|af rfl<|ar rfl<|aw ?_
   refine WC.ret (au.fJ (Ret.one Tryz.results126 rfl ?_))
   exact⟨_,_,hk1 V' hne hv' hkv',bN⟩
  ·
   have heq:C.2=0:=by omega
   refine ay<|aa<|aD<|af rfl<|ab rfl (by exact bj rfl G75 rfl aK ba rfl) ?_
   refine ab rfl (aL rfl rfl)<|ab rfl (by exact ak rfl xJ rfl rfl) ?_
   refine aq rfl<|aM rfl G75 rfl rfl ba bh rfl rfl ba rfl ?_
   refine a7<|ar rfl<|aw ?_
   refine WC.ret (Ret.one Tryz.results126 rfl ?_)
   exact⟨_,_,hk0 V' heq hv' hkv',bN⟩
theorem zA{s t:DSt}(h:t.aJ.length=s.aJ.length)(f z:Int):fS t f z=fS s f z:=by unfold fS;rw[h]
theorem p7{cb:Nat}{cm:aO Int Tx}{sp':Nat->Bool}(ht:ea∈R)(hlog:gP l d ((2+files:Nat):Int) 5∈R)(hcm:iu kI vs cb cm∈R)(hc1:1<=cm.l.length/\cm.l.length<=3)(hck: ∀x∈cm.ks,0<=x/\x<5000)
 (hfit:fS D ((2+files:Nat):Int) 5=true) (dk:Dk D k) (hm:k<=4294950000) (hv:VOk V D) (hkeep:SlE (SL.one vi) V.kv D.keep∈R)
 (hk: ∀ks V' C,ks.Perm cm.ks->C=cf D ((2+files:Nat):Int) 5 (cL (spB un sp') (lX cm ks))->VOk V' C.1->V'.kv=V.kv->POST (.int .i64 (C.2:Nat)) R (stO s d l mb un files (if C.2=0 then sp' else sp) (decide (C.2≠0)) m V' C.1 O)):
 Fun Tryz.prog 126 #[dp s,spV un sp',.map (some cb)] R (stO s d l mb un files sp false m V D O) POST:=by
 refine Bp ht hlog hcm hc1 hck hfit dk hm hv hkeep (λks V' h1 h2 h3 h4=>?_) (λks V' h1 h2 h3 h4=>?_)
 ·have:=hk ks V' _ h1 rfl h3 h4
  rw[if_pos h2,h2] at this
  exact this
 ·have:=hk ks V' _ h1 rfl h3 h4
  rw[if_neg h2,decide_eq_true h2] at this
  exact this
theorem tC{name:Tx}{q:MI}{w:World}(h:allM m w)(hq:SlE cW q.2.2.1 q.2.2.2 w):allM (m.set name q) w:=λb u hb=>by
 rw[aO.gK] at hb
 split at hb
 ·cases hb;exact hq
 ·exact h b u hb
theorem Pb(dk:Dk D k)(L:List Nat)(data:Tx):Dk (lS D L data).1 (k+L.length+1)/\(lS D L data).1.aJ.length=D.aJ.length/\(lS D L data).1.keep=D.keep:=by
 unfold lS
 split
 ·exact⟨dk.mono ao,rfl,rfl⟩
 ·have:=iK (x:=bQ L data) dk
  rw[kO] at this
  exact this
theorem D3{ks:List Int}{e:Nat}{t:Tx}(h:ks.Perm ((aO.empty:aO Int Tx).set (e:Int) t).ks):lX ((aO.empty:aO Int Tx).set (e:Int) t) ks=[(e,t)]:=by
 have h1:((aO.empty:aO Int Tx).set (e:Int) t).ks=[(e:Int)]:=rfl
 rw[h1] at h
 obtain rfl:=List.perm_singleton.1 h
 unfold lX
 simp
set_option maxRecDepth 20000 in
set_option maxHeartbeats 4000000 in
theorem y8{name:Tx}{q:MI}{L:List Nat}{lv:Value}{data:Tx}{sp':Nat->Bool}(ht:ea∈R)(hlog:gP l d ((2+files:Nat):Int) 5∈R)(hall:allM m∈R)(hx:SlE cW q.2.2.1 q.2.2.2∈R)(hio:gE files name (miI q))(hfs:files<=256)
 (hl:SlE (SL.one vi) lv (eI L)∈R) (hll:L.length<=100000) (hfit:fS D ((2+files:Nat):Int) 5=true) (dk:Dk D k) (hm:k<=4294800000) (hv:VOk V D) (hkeep:SlE (SL.one vi) V.kv D.keep∈R) (hdl:data.length<=20000000)
 (hk0: ∀V',(opS D ((2+files:Nat):Int) 5 L data (spB un sp') [(q.1,bW name (miI q))]).2=0->VOk V' (opS D ((2+files:Nat):Int) 5 L data (spB un sp') [(q.1,bW name (miI q))]).1->V'.kv=V.kv->POST (.int .i64 0) (allM (m.set name q)::R) (stO s d l mb un files sp' false (m.set name q) V' (opS D ((2+files:Nat):Int) 5 L data (spB un sp') [(q.1,bW name (miI q))]).1 O))
 (hk1: ∀V',(opS D ((2+files:Nat):Int) 5 L data (spB un sp') [(q.1,bW name (miI q))]).2≠0->VOk V' (opS D ((2+files:Nat):Int) 5 L data (spB un sp') [(q.1,bW name (miI q))]).1->V'.kv=V.kv->POST (.int .i64 ((opS D ((2+files:Nat):Int) 5 L data (spB un sp') [(q.1,bW name (miI q))]).2:Nat)) R (stO s d l mb un files sp true m V' (opS D ((2+files:Nat):Int) 5 L data (spB un sp') [(q.1,bW name (miI q))]).1 O)):
 Fun Tryz.prog 66 #[dp s,vs name,miV q,spV un sp',lv,vs data] R (stO s d l mb un files sp false m V D O) POST:=by
 refine bp<|Fun.sJ hx λhone=>?_
 obtain⟨dk1,hln1,hkp1⟩:=Pb dk L data
 have hqe:q.1<files:=hio.e
 obtain⟨A,hA⟩: ∃A,A=lS D L data:=⟨_,rfl⟩
 have hop:opS D ((2+files:Nat):Int) 5 L data (spB un sp') [(q.1,bW name (miI q))]=if A.2≠0 then A else cf A.1 ((2+files:Nat):Int) 5 (cL (spB un sp') [(q.1,bW name (miI q))]):=by
  unfold opS cJ;rw[←hA]
 rw[hop] at hk0 hk1
 rw[←hA] at dk1 hln1 hkp1
 refine aC (l:=[_,_,_,_,_,_]) Tryz.func66 rfl Tryz.ntmps66 rfl (L0:=[(0,_),(1,_),(2,_),(3,_),(4,_),(5,_)]) rfl ?_
 refine aD<|aq rfl<|OpW.box rfl rfl ba rfl rfl ?_;intro b8
 refine aq rfl<|OpW.box rfl rfl ba rfl rfl ?_;intro b9
 refine ar rfl<|aw<|bd<|af rfl<|af rfl<|af rfl<|aq rfl<|aj rfl rfl aZ an rfl rfl rfl ?_
 refine Fun.heap (R':=R) (O':=dO d V D (oY s d l mb un files sp false::fl vs miV mb m::az b8 126 (bV q.1 q.2.1 q.2.2.1)::az b9 75 (dD un sp')::O)) bN ?_
 refine Iy hl rfl dk ao hv hkeep hdl ?_
 rw[←hA]
 intro U hu hku
 refine ar rfl<|a7<|af rfl<|ab rfl (Rd.neq rfl rfl rfl)<|aw<|aE rfl (λhc1=>?_) (λhc1=>?_)
 ·
  have hne:A.2≠0:=by omega
  rw[if_pos hne] at hk0 hk1
  refine aD<|af rfl<|ab rfl (aL rfl rfl)<|ab rfl (by exact ak rfl J2 rfl rfl) ?_
  refine aq rfl<|aV rfl Z4 rfl rfl (by exact⟨rfl,rfl⟩) bh (by(simp;done)) rfl ?_
  refine a7<|af rfl<|ar rfl<|aw ?_
  refine WC.ret (au.fJ (Ret.one Tryz.results66 rfl ?_))
  exact⟨_,_,hk1 U hne hu hku,bN⟩
 ·
  have heq: ¬A.2≠0:=by omega
  rw[if_neg heq] at hk0 hk1
  refine ay<|aa<|aF<|aF<|WC.drawn (az b8 126 (bV q.1 q.2.1 q.2.2.1)::az b9 75 (dD un sp')::O) 12 rfl mixed ?_
  refine ae 0 rfl an aN rfl rfl rfl (al rfl rfl) ?_
  refine ae 1 rfl an aN rfl rfl rfl ((by exact bj rfl G75 rfl aK ba rfl)) ?_
  refine ae 3 rfl an aN rfl rfl rfl ((by exact ak rfl rD rfl rfl)) ?_
  refine ae 4 rfl an aN rfl rfl rfl ((by exact ax rfl C3 rfl aK (by rfl))) ?_
  refine ae 5 rfl an aN rfl rfl rfl (al rfl rfl) ?_
  refine ae 6 rfl an aN rfl rfl rfl ((by exact bj rfl iM rfl aK ba rfl)) ?_
  refine WD.two 2 7 rfl rfl an rfl rfl ?_ ?_
  ·
   refine OpW.makeMap kI SL.vs rfl rfl rfl ?_;intro b27
   refine⟨aN,?_⟩
   refine aS 7 rfl an rfl ?_
   refine aj rfl rfl aZ an rfl rfl rfl ?_
   refine pj (files:=files) (e:=q.1) (i:=miI q) aK aK hio ?_
   refine⟨aN,?_⟩
   refine aS 8 rfl an rfl ?_
   refine OpW.EY (kenc:=kI) (venc:=vs) (m:=aO.empty) (k:=(q.1:Int)) (v:=bW name (miI q)) Mi K3 rfl rfl rfl rfl bh rfl rfl rfl ?_
   refine⟨aN,?_⟩
   refine WD.heap (λw h=>vQ (kenc:=kI) (venc:=SL.vs) (b:=b27) (m:=(aO.empty:aO Int Tx).set (q.1:Int) (bW name (miI q))) bh h) ?_
   refine ae 9 rfl an aN rfl rfl rfl (al rfl rfl) ?_
   refine aS 10 rfl an rfl ?_
   refine aj rfl rfl aZ an rfl rfl rfl ?_
   refine Fun.heap (R':=iu kI SL.vs b27 ((aO.empty:aO Int Tx).set (q.1:Int) (bW name (miI q)))::R) (O':=stO s d l mb un files sp false m U A.1 (az b8 126 (bV q.1 q.2.1 q.2.2.1)::az b9 75 (dD un sp')::O)) bN ?_
   refine p7 (List.mem_cons_of_mem _ ht) (List.mem_cons_of_mem _ hlog) List.mem_cons_self ⟨Nat.le_refl 1,(by show 1<=3;omega)⟩ (λx hx=>by rw[show((aO.empty:aO Int Tx).set (q.1:Int) (bW name (miI q))).ks=[(q.1:Int)] from rfl,List.mem_singleton] at hx;omega) (by rw[zA hln1];exact hfit) dk1 ao hu (by rw[hku,hkp1];exact List.mem_cons_of_mem _ hkeep) ?_
   intro ks U1 C hks hC hu1 hku1
   rw[D3 hks] at hC
   rw[←hC] at hk0 hk1
   refine⟨aN,?_⟩
   refine ae 11 rfl an aN rfl rfl rfl (Rd.assign rfl rfl) ?_
   refine WD.done an ?_
   refine aa<|aD<|af rfl<|ab rfl (Rd.neq rfl rfl rfl)<|aw ?_
   refine aE rfl (λhc2=>?_) (λhc2=>?_)
   ·
    have hne:C.2≠0:=by omega
    rw[if_neg hne,decide_eq_true hne]
    refine aD<|af rfl<|ar rfl<|aw ?_
    refine WC.ret (au.fJ (Ret.one Tryz.results66 rfl ?_))
    exact⟨_,_,hk1 U1 hne hu1 (hku1.trans hku),bN⟩
   ·
    have heq:C.2=0:=by omega
    rw[if_pos heq,decide_eq_false (by omega: ¬C.2≠0)]
    refine ay<|aa<|aF<|WC.tail 6 mixed an ?_
    refine bn rfl (al rfl rfl)<|bn rfl (aL rfl rfl)<|bn rfl (by exact ak rfl ua rfl rfl) ?_
    refine bn rfl (ax (off:=4) (u:=.map (some mb)) rfl C72 rfl (b:=s) aK rfl) ?_
    refine bn rfl (al rfl rfl)<|bn rfl (by exact bj rfl iM rfl aK ba rfl) ?_
    refine dm<|aq rfl<|OpW.mapUpdate (kenc:=vs) (venc:=miV) (m:=m) (k:=name) (v:=q) M72 K9 rfl rfl rfl rfl bh rfl rfl rfl ?_
    refine a7<|ar rfl<|aw ?_
    refine WC.heap (R':=allM (m.set name q)::R) (O':=stO s d l mb un files sp' false (m.set name q) U1 C.1 O) (λw h=>by
    have h2:Sat (allM (m.set name q)::R) _ w:=(h.thin (R':=R) (cB.mem cz)).derive (λw hw=>tC (hw _ hall) (hw _ hx))
    exact dj h2) ?_
    refine WC.ret (Ret.one Tryz.results66 rfl ?_)
    exact⟨_,_,hk0 U1 heq hu1 (hku1.trans hku),λw h=>h⟩
  ·
   refine aj rfl rfl aZ an rfl rfl rfl ?_
   refine pj (files:=files) (e:=q.1) (i:=miI q) aK aK hio ?_
   refine⟨aN,?_⟩
   refine aS 2 rfl an rfl ?_
   refine OpW.makeMap kI SL.vs rfl rfl rfl ?_;intro b27
   refine⟨aN,?_⟩
   refine aS 8 rfl an rfl ?_
   refine OpW.EY (kenc:=kI) (venc:=vs) (m:=aO.empty) (k:=(q.1:Int)) (v:=bW name (miI q)) Mi K3 rfl rfl rfl rfl bh rfl rfl rfl ?_
   refine⟨aN,?_⟩
   refine WD.heap (λw h=>vQ (kenc:=kI) (venc:=SL.vs) (b:=b27) (m:=(aO.empty:aO Int Tx).set (q.1:Int) (bW name (miI q))) bh h) ?_
   refine ae 9 rfl an aN rfl rfl rfl (al rfl rfl) ?_
   refine aS 10 rfl an rfl ?_
   refine aj rfl rfl aZ an rfl rfl rfl ?_
   refine Fun.heap (R':=iu kI SL.vs b27 ((aO.empty:aO Int Tx).set (q.1:Int) (bW name (miI q)))::R) (O':=stO s d l mb un files sp false m U A.1 (az b8 126 (bV q.1 q.2.1 q.2.2.1)::az b9 75 (dD un sp')::O)) bN ?_
   refine p7 (List.mem_cons_of_mem _ ht) (List.mem_cons_of_mem _ hlog) List.mem_cons_self ⟨Nat.le_refl 1,(by show 1<=3;omega)⟩ (λx hx=>by rw[show((aO.empty:aO Int Tx).set (q.1:Int) (bW name (miI q))).ks=[(q.1:Int)] from rfl,List.mem_singleton] at hx;omega) (by rw[zA hln1];exact hfit) dk1 ao hu (by rw[hku,hkp1];exact List.mem_cons_of_mem _ hkeep) ?_
   intro ks U1 C hks hC hu1 hku1
   rw[D3 hks] at hC
   rw[←hC] at hk0 hk1
   refine⟨aN,?_⟩
   refine ae 11 rfl an aN rfl rfl rfl (Rd.assign rfl rfl) ?_
   refine WD.done an ?_
   refine aa<|aD<|af rfl<|ab rfl (Rd.neq rfl rfl rfl)<|aw ?_
   refine aE rfl (λhc2=>?_) (λhc2=>?_)
   ·
    have hne:C.2≠0:=by omega
    rw[if_neg hne,decide_eq_true hne]
    refine aD<|af rfl<|ar rfl<|aw ?_
    refine WC.ret (au.fJ (Ret.one Tryz.results66 rfl ?_))
    exact⟨_,_,hk1 U1 hne hu1 (hku1.trans hku),bN⟩
   ·
    have heq:C.2=0:=by omega
    rw[if_pos heq,decide_eq_false (by omega: ¬C.2≠0)]
    refine ay<|aa<|aF<|WC.tail 6 mixed an ?_
    refine bn rfl (al rfl rfl)<|bn rfl (aL rfl rfl)<|bn rfl (by exact ak rfl ua rfl rfl) ?_
    refine bn rfl (ax (off:=4) (u:=.map (some mb)) rfl C72 rfl (b:=s) aK rfl) ?_
    refine bn rfl (al rfl rfl)<|bn rfl (by exact bj rfl iM rfl aK ba rfl) ?_
    refine dm<|aq rfl<|OpW.mapUpdate (kenc:=vs) (venc:=miV) (m:=m) (k:=name) (v:=q) M72 K9 rfl rfl rfl rfl bh rfl rfl rfl ?_
    refine a7<|ar rfl<|aw ?_
    refine WC.heap (R':=allM (m.set name q)::R) (O':=stO s d l mb un files sp' false (m.set name q) U1 C.1 O) (λw h=>by
    have h2:Sat (allM (m.set name q)::R) _ w:=(h.thin (R':=R) (cB.mem cz)).derive (λw hw=>tC (hw _ hall) (hw _ hx))
    exact dj h2) ?_
    refine WC.ret (Ret.one Tryz.results66 rfl ?_)
    exact⟨_,_,hk0 U1 heq hu1 (hku1.trans hku),λw h=>h⟩
theorem lB{name:Tx}{q:MI}{L:List Nat}{lv:Value}{data:Tx}{sp':Nat->Bool}(ht:ea∈R)(hlog:gP l d ((2+files:Nat):Int) 5∈R)(hall:allM m∈R)(hx:SlE cW q.2.2.1 q.2.2.2∈R)(hio:gE files name (miI q))(hfs:files<=256)
 (hl:SlE (SL.one vi) lv (eI L)∈R) (hll:L.length<=100000) (hfit:fS D ((2+files:Nat):Int) 5=true) (dk:Dk D k) (hm:k<=4294800000) (hv:VOk V D) (hkeep:SlE (SL.one vi) V.kv D.keep∈R) (hdl:data.length<=20000000)
 (hk: ∀V' p,p=opS D ((2+files:Nat):Int) 5 L data (spB un sp') [(q.1,bW name (miI q))]->VOk V' p.1->V'.kv=V.kv->POST (.int .i64 (p.2:Nat)) (allM (if p.2=0 then m.set name q else m)::R) (stO s d l mb un files (if p.2=0 then sp' else sp) (decide (p.2≠0)) (if p.2=0 then m.set name q else m) V' p.1 O)):
 Fun Tryz.prog 66 #[dp s,vs name,miV q,spV un sp',lv,vs data] R (stO s d l mb un files sp false m V D O) POST:=by
 refine bp (y8 ht hlog hall hx hio hfs hl hll hfit dk hm hv hkeep hdl (λV' h2 h3 h4=>?_) (λV' h2 h3 h4=>?_))
 ·have:=hk V' _ rfl h3 h4
  rw[if_pos h2,if_pos h2,h2] at this
  exact⟨_,_,this,λw h=>h⟩
 ·have:=hk V' _ rfl h3 h4
  rw[if_neg h2,if_neg h2,decide_eq_true h2] at this
  exact⟨_,_,this,λw h=>h.derive λw hw=>hw _ hall⟩
end
end Go.Proofs.YtebpkhlifcffnaaGreatDoor.Fs
namespace Go.Proofs.YtebpkhlifcffnaaGreatDoor.Fs
open Go Go.SL
theorem P7{m:aO Tx MI}{b:Tx}{y:Ino}(h:eB m b=some y): ∃q,m.get b=some q/\miI q=y:=by
 unfold eB at h
 exact Option.map_eq_some_iff.1 h
theorem mo{m:aO Tx MI}{b:Tx}{q:MI}(h:m.get b=some q):eB m b=some (miI q):=by unfold eB;rw[h];rfl
theorem s7{m:aO Tx MI}{b:Tx}(h:m.get b=none):eB m b=none:=by unfold eB;rw[h];rfl
theorem Jv(m:aO Tx MI)(name:Tx)(q:MI):eB (m.set name q)=pw (eB m) name (some (miI q)):=by
 funext b
 unfold eB pw
 rw[aO.gK]
 split<;>rfl
theorem Mnt.fits{n files:Nat}{F:FS}{sp:Nat->Bool}{D:DSt}(h:Mnt n files F sp D)(hn:7+files<=n):fS D ((2+files:Nat):Int) 5=true:=by
 have:=h.inv.len
 unfold fS
 rw[decide_eq_true_eq,this]
 omega
section
variable{R:List RO}{O:List Own}{POST:Value->List RO->List Own->Prop}{s d l mb un files k:Nat}{sp:Nat->Bool}{m:aO Tx MI}{V:DV}{D:DSt}
def B4(POST:Value->List RO->List Own->Prop)(R:List RO)(O:List Own)(s d l mb un files n:Nat)(sp:Nat->Bool)(m:aO Tx MI)(V:DV)(D:DSt)(name data:Tx):Prop:=
 ∀V' p e v xs,jc n files (eB m) sp name data e xs->p=opS D ((2+files:Nat):Int) 5 (bT (7+files) xs) data (spB un (jP (bP true sp xs) (eB m name))) [(e,bW name ⟨e,data.length,xs⟩)]->VOk V' p.1->V'.kv=V.kv->
  POST (.int .i64 (p.2:Nat)) (allM (if p.2=0 then m.set name (e,data.length,v,xs) else m)::R) (stO s d l mb un files (if p.2=0 then jP (bP true sp xs) (eB m name) else sp) (decide (p.2≠0)) (if p.2=0 then m.set name (e,data.length,v,xs) else m) V' p.1 O)
set_option maxRecDepth 20000 in
set_option maxHeartbeats 8000000 in
theorem C8{n:Nat}{name data:Tx}(hmg:m.get name=none)(hg:oU name)(hi:Mnt n files (eB m) sp D)(hun:un=n-(7+files))(hn:7+files<n/\n<=4096)(hfs:files<=256)(hdl:data.length<=1048576)(hneed:bc data.length<=fD sp un/\bc data.length<=64)(hfree: ∃e,e<files/\ ∀b q,m.get b=some q->q.1≠e)(ht:ea∈R)(hlog:gP l d ((2+files:Nat):Int) 5∈R)(hall:allM m∈R)
 (dk:Dk D k) (hm:k<=4294700000) (hv:VOk V D) (hkeep:SlE (SL.one vi) V.kv D.keep∈R) (hk:B4 POST R O s d l mb un files n sp m V D name data):
 Fun Tryz.prog 29 #[dp s,vs name,vs data] R (stO s d l mb un files sp false m V D O) POST:=by
 refine bp ?_
 have hfn:=s7 hmg
 refine aC (l:=[_,_,_]) Tryz.func29 rfl Tryz.ntmps29 rfl (L0:=[(0,_),(1,_),(2,_)]) rfl ?_
 refine aD<|ar rfl<|a7<|af rfl<|af rfl ?_
 refine aq rfl<|aj rfl rfl aZ an rfl rfl rfl ?_
 refine wR hmg hg hi.cl.off ?_
 refine af rfl<|bH rfl<|bH rfl<|aq rfl<|OpW.alloc rfl lA rfl ba rfl rfl ?_;intro b7
 refine aq rfl<|aM rfl iM rfl rfl ba bh rfl rfl ba rfl ?_
 refine ar rfl<|aw<|bd<|af rfl<|ab rfl (Rd.neq rfl rfl rfl)<|af rfl<|WL.case 20 rfl (λhg20=>?_) (λhg20=>?_)
 ·
  refine aT rfl (al rfl rfl)<|aT rfl (Rd.neq rfl rfl rfl)<|ab rfl (aY rfl rfl rfl)<|aw<|aE rfl (λhc1=>?_) (λhc1=>?_)
  ·
   (exact absurd rfl hc1)
  ·
   refine ay<|aa<|bd<|af rfl<|ab rfl (cg (ts:=#[]) (ty:=0) rfl rfl Tryz.underlying9) ?_
   refine ab rfl (Rd.gtr rfl rfl rfl)<|aw<|aE rfl (λhc2=>?_) (λhc2=>?_)
   ·
    omega
   ·
    refine ay<|aa<|aD<|ab rfl (by exact ak rfl rD rfl rfl) ?_
    refine ab rfl (by exact ax rfl C3 rfl aK (by rfl)) ?_
    refine af rfl<|ab rfl (cg (ts:=#[]) (ty:=0) rfl rfl Tryz.underlying9) ?_
    refine ab rfl (bO (ps:=[(0,_),(1,_)]) rfl En lA rfl aZ fy (by apply NFo.mk;repeat(first|exact NF.nil|apply NF.cons))) ?_
    refine aq rfl<|OpW.alloc rfl lA rfl ba rfl rfl ?_;intro b9
    refine aq rfl<|aM rfl iM rfl rfl ba bh rfl rfl ba rfl ?_
    refine aw<|bd<|af rfl<|ab rfl (Rd.eql rfl rfl rfl)<|aw ?_
    refine aE rfl (λhc3=>?_) (λhc3=>?_)
    ·
     refine aD<|ar rfl<|a7<|af rfl ?_
     refine aq rfl<|aj rfl rfl aZ an rfl rfl rfl ?_
     refine Fun.heap (R':=R) (O':=stO s d l mb un files sp false m V D (az b7 126 (bV 0 0 (.slice none 0 0))::az b9 126 (bV 0 data.length (.slice none 0 0))::O)) bN ?_
     refine AH hall ao (λb q hb=>(hi.inv.fok.ok b _ (mo hb)).e) hfree ?_;intro e he hee
     refine af rfl<|bH rfl<|bH rfl<|ab rfl (by exact ak rfl rD rfl rfl) ?_
     refine aq rfl<|aV rfl Z3 rfl rfl (by exact⟨rfl,rfl⟩) bh (by(simp;done)) rfl ?_
     refine ar rfl<|a7<|af rfl<|ab rfl (by exact Rd.not rfl rfl) ?_
     refine aU 42 (u:=.bool (decide False)) rfl rfl ?_
     refine aw<|aE rfl (λhc4=>?_) (λhc4=>?_)
     ·
      exact hc4.elim
     ·
      refine ay<|aa<|aD<|af rfl<|ab rfl (aL rfl rfl)<|ab rfl (by exact ak rfl xJ rfl rfl) ?_
      refine ab rfl (bj (b:=s) rfl G75 rfl aK ba rfl) ?_
      refine aq rfl<|OpW.alloc rfl I75 rfl ba rfl rfl ?_;intro b11
      refine aq rfl<|aM rfl G75 rfl rfl ba bh rfl rfl ba rfl ?_
      refine aw<|aF<|aF<|WC.o9 (O) ([(10,az b9 126 (bV e data.length (.slice none 0 0))),(11,az b11 75 (dD un sp))]) 13 rfl mixed ?_
      refine WE.take 0 [(10,az b9 126 (bV e data.length (.slice none 0 0))),(11,az b11 75 (dD un sp))] rfl an jE (aP [az b9 126 (bV e data.length (.slice none 0 0)),az b11 75 (dD un sp)] an cz dI fk) rfl rfl rfl ((by exact bj rfl G75 rfl aK ba rfl)) ?_
      refine WE.take 1 [] rfl an jE (aP [az b9 126 (bV e data.length (.slice none 0 0)),az b11 75 (dD un sp)] an cz dI fk) rfl rfl rfl ((by exact ak rfl ix rfl rfl)) ?_
      refine WE.take 2 [(10,az b9 126 (bV e data.length (.slice none 0 0))),(11,az b11 75 (dD un sp))] rfl an jE (aP [az b9 126 (bV e data.length (.slice none 0 0)),az b11 75 (dD un sp)] an cz dI fk) rfl rfl rfl ((by exact ax rfl C3 rfl aK (by rfl))) ?_
      refine WE.one 3 rfl an rfl ?_
      refine aj rfl rfl aZ an rfl rfl rfl ?_
      refine kN ao ?_
      refine⟨(aP [az b9 126 (bV e data.length (.slice none 0 0)),az b11 75 (dD un sp)] an cz dI fk),?_⟩
      refine WE.one 4 rfl an rfl ?_
      refine aj rfl rfl aZ an rfl rfl rfl ?_
      refine jr (n:=un) (f:=sp) (k:=bc data.length) (most:=64) ao hneed.1 hneed.2 ao ?_;intro v xs hvo hT hS
      refine⟨(aP [az b9 126 (bV e data.length (.slice none 0 0)),az b11 75 (dD un sp)] an cz dI fk),?_⟩
      refine WE.take 5 [] rfl an jE (aP [az b9 126 (bV e data.length (.slice none 0 0)),az b11 75 (dD un sp)] an cz dI fk) rfl rfl rfl (al rfl rfl) ?_
      refine WE.take 6 [] rfl an jE (aP [az b9 126 (bV e data.length (.slice none 0 0)),az b11 75 (dD un sp)] an cz dI fk) rfl rfl rfl (Rd.extract rfl rfl rfl) ?_
      refine WE.take 7 [] rfl an jE (aP [az b9 126 (bV e data.length (.slice none 0 0)),az b11 75 (dD un sp)] an cz dI fk) rfl rfl rfl (Rd.extract rfl rfl rfl) ?_
      refine WE.take 8 [] rfl an jE (aP [az b9 126 (bV e data.length (.slice none 0 0)),az b11 75 (dD un sp)] an cz dI fk) rfl rfl rfl (Rd.extract rfl rfl rfl) ?_
      refine WE.take 9 [] rfl an jE (aP [az b9 126 (bV e data.length (.slice none 0 0)),az b11 75 (dD un sp)] an cz dI fk) rfl rfl rfl ((by exact ak rfl fm rfl rfl)) ?_
      refine WE.one 10 rfl an rfl ?_
      refine aV rfl HK rfl rfl hvo bh (by show 2<3;omega) rfl ?_
      refine⟨(aP [az b11 75 (dD un sp)] an cz dI fk),?_⟩
      refine WE.one 11 rfl an rfl ?_
      refine aM rfl G75 rfl rfl ba bh rfl rfl ba rfl ?_
      refine⟨(aP [] an cz dI fk),?_⟩
      refine WE.take 12 [] rfl an jE (aP [] an cz dI fk) rfl rfl rfl (Rd.assign rfl rfl) ?_
      refine WE.done an ?_
      refine aa<|aD<|af rfl<|ab rfl (Rd.neq rfl rfl rfl)<|aw ?_
      refine aE rfl (λhc5=>?_) (λhc5=>?_)
      ·
       exact absurd rfl hc5
      ·
       refine ay<|aa<|aF<|aF<|WC.heap (λw h=>h.tj (α:=Ext) (enc:=cW)) ?_
       refine aB<|ab rfl (by exact bj rfl G75 rfl aK ba rfl) ?_
       refine ab rfl (by exact ak rfl fm rfl rfl) ?_
       refine ab rfl (by exact ax rfl kW rfl aK (by rfl)) ?_
       refine aq rfl<|aj rfl rfl aZ an rfl rfl rfl ?_
       refine r6 (n:=un) (f:=bP true sp xs) (xs:=([]:List Ext)) aK ao trivial (by simp) ?_
       refine af rfl<|bH rfl<|bH rfl<|aq rfl<|aM rfl G75 rfl rfl ba bh rfl rfl ba rfl ?_
       refine ar rfl<|a7<|af rfl<|ab rfl (Rd.neq rfl rfl rfl)<|aw<|aE rfl (λhc6=>?_) (λhc6=>?_)
       ·
        exact absurd rfl hc6
       ·
        refine ay<|aa<|aF ?_
        rw[hun] at hT
        have hlx:=hT.len
        have hTm:=λx hx=>(hT.mem x hx).2.1
        have hW:jc n files (eB m) sp name data e xs:=⟨hg,hdl,he,λb y hb=>⟨λh=>by obtain⟨q,h1,h2⟩:=P7 hb;subst h2;exact absurd h (hee b q h1),λh=>by subst h;rw[hfn] at hb;cases hb⟩,hT,hS,by omega⟩
        have hio:gE files name (miI (e,data.length,v,xs)):=hW.ino hn.2
        have hfree2:bP false (bP true sp xs) ([]:List Ext)=jP (bP true sp xs) (eB m name):=by rw[hfn];rfl
        rw[hfree2]
        refine WC.drawn (az b9 126 (bV e data.length v)::az b11 75 (dD un (jP (bP true sp xs) (eB m name)))::O) 11 rfl mixed ?_
        refine ae 0 rfl an aN rfl rfl rfl (al rfl rfl) ?_
        refine ae 1 rfl an aN rfl rfl rfl (al rfl rfl) ?_
        refine ae 2 rfl an aN rfl rfl rfl ((by exact bj rfl iM rfl aK ba rfl)) ?_
        refine ae 3 rfl an aN rfl rfl rfl ((by exact bj rfl G75 rfl aK ba rfl)) ?_
        refine ae 4 rfl an aN rfl rfl rfl (al rfl rfl) ?_
        refine ae 5 rfl an aN rfl rfl rfl ((by exact ak rfl fm rfl rfl)) ?_
        refine ae 6 rfl an aN rfl rfl rfl ((by exact ax rfl kW rfl aK (by rfl))) ?_
        refine ae 8 rfl an aN rfl rfl rfl (al rfl rfl) ?_
        refine aS 7 rfl an rfl ?_
        refine aj rfl rfl aZ an rfl rfl rfl ?_
        refine iz (s:=s) (files:=files) (xs:=xs) aK aK rfl ao ao (λx hx=>by have:=hTm x hx;omega) ?_;intro v75
        refine⟨aN,?_⟩
        refine aS 9 rfl an rfl ?_
        refine aj rfl rfl aZ an rfl rfl rfl ?_
        refine Fun.heap (R':=SlE (SL.one vi) v75 (eI (bT (7+files) xs))::SlE cW v xs::SlE cW (.slice none 0 0) ([]:List Ext)::R) (O':=stO s d l mb un files sp false m V D (az b9 126 (bV e data.length v)::az b11 75 (dD un (jP (bP true sp xs) (eB m name)))::O)) bN ?_
        refine lB (q:=(e,data.length,v,xs)) (L:=bT (7+files) xs) (by repeat(first|exact ht|refine List.mem_cons_of_mem _ ?_)) (by repeat(first|exact hlog|refine List.mem_cons_of_mem _ ?_)) (by repeat(first|exact hall|refine List.mem_cons_of_mem _ ?_)) (List.mem_cons_of_mem _ List.mem_cons_self) hio hfs List.mem_cons_self (by rw[dC];omega) (hi.fits ao) dk ao hv (by repeat(first|exact hkeep|refine List.mem_cons_of_mem _ ?_)) ao ?_
        intro V' p hp hv' hkv'
        refine⟨aN,?_⟩
        refine ae 10 rfl an aN rfl rfl rfl (Rd.assign rfl rfl) ?_
        refine WD.done an ?_
        refine aa<|WC.ret (Ret.one Tryz.results29 rfl ?_)
        exact⟨_,_,hk V' p e v xs hW hp hv' hkv',bN⟩
    ·
     exact absurd rfl hc3
 ·
  exact absurd ct hg20
set_option maxRecDepth 20000 in
set_option maxHeartbeats 8000000 in
theorem CA{n:Nat}{name data:Tx}{q0:MI}(hmg:m.get name=some q0)(hg:oU name)(hi:Mnt n files (eB m) sp D)(hun:un=n-(7+files))(hn:7+files<n/\n<=4096)(hfs:files<=256)(hdl:data.length<=1048576)(hneed:bc data.length<=fD sp un/\bc data.length<=64)(ht:ea∈R)(hlog:gP l d ((2+files:Nat):Int) 5∈R)(hall:allM m∈R)
 (dk:Dk D k) (hm:k<=4294700000) (hv:VOk V D) (hkeep:SlE (SL.one vi) V.kv D.keep∈R) (hk:B4 POST R O s d l mb un files n sp m V D name data):
 Fun Tryz.prog 29 #[dp s,vs name,vs data] R (stO s d l mb un files sp false m V D O) POST:=by
 refine bp ?_
 have hfn:=mo hmg
 have hok0:=hi.inv.fok.ok name _ hfn
 have htk0:=hi.inv.fok.tk name _ hfn
 have htk0':bU un false sp q0.2.2.2:=by rw[hun];exact htk0
 have hl0:q0.2.2.2.length<=64:=hok0.len
 refine Fun.oR (φ:=bL q0.2.2.1) hall (λw h=>SlE.sJ (h name q0 hmg)) λhone=>?_
 refine aC (l:=[_,_,_]) Tryz.func29 rfl Tryz.ntmps29 rfl (L0:=[(0,_),(1,_),(2,_)]) rfl ?_
 refine aD<|ar rfl<|a7<|af rfl<|af rfl ?_
 refine aq rfl<|aj rfl rfl aZ an rfl rfl rfl ?_
 refine rj hmg hg hi.cl.off hall ?_
 refine af rfl<|bH rfl<|bH rfl<|aq rfl<|OpW.alloc rfl lA rfl ba rfl rfl ?_;intro b7
 refine aq rfl<|aM (h1:=by simp only[List.all_cons,List.all_nil,hone.one];rfl) rfl iM rfl rfl ba bh rfl rfl ba rfl ?_
 refine ar rfl<|aw<|bd<|af rfl<|ab rfl (Rd.neq rfl rfl rfl)<|af rfl<|WL.case 20 rfl (λhg20=>?_) (λhg20=>?_)
 ·
  exact absurd rfl hg20
 ·
  refine aW rfl<|aW rfl<|ab rfl (aQ rfl rfl rfl)<|aw<|WC.no rfl<|ay<|aa<|bd<|af rfl<|ab rfl (cg (ts:=#[]) (ty:=0) rfl rfl Tryz.underlying9) ?_
  refine ab rfl (Rd.gtr rfl rfl rfl)<|aw<|aE rfl (λhc2=>?_) (λhc2=>?_)
  ·
   omega
  ·
   refine ay<|aa<|aD<|ab rfl (by exact ak rfl rD rfl rfl) ?_
   refine ab rfl (by exact ax rfl C3 rfl aK (by rfl)) ?_
   refine af rfl<|ab rfl (cg (ts:=#[]) (ty:=0) rfl rfl Tryz.underlying9) ?_
   refine ab rfl (bO (ps:=[(0,_),(1,_)]) rfl En lA rfl aZ fy (by apply NFo.mk;repeat(first|exact NF.nil|apply NF.cons))) ?_
   refine aq rfl<|OpW.alloc rfl lA rfl ba rfl rfl ?_;intro b9
   refine aq rfl<|aM rfl iM rfl rfl ba bh rfl rfl ba rfl ?_
   refine aw<|bd<|af rfl<|ab rfl (Rd.eql rfl rfl rfl)<|aw ?_
   refine aE rfl (λhc3=>?_) (λhc3=>?_)
   ·
    exact absurd hc3 ct
   ·
    refine ay<|aa<|aD<|af rfl<|ab rfl (aL rfl rfl)<|ab rfl (by exact ak rfl xJ rfl rfl) ?_
    refine ab rfl (bj (b:=s) rfl G75 rfl aK ba rfl) ?_
    refine aq rfl<|OpW.alloc rfl I75 rfl ba rfl rfl ?_;intro b11
    refine aq rfl<|aM rfl G75 rfl rfl ba bh rfl rfl ba rfl ?_
    refine aw<|aF<|aF<|WC.o9 (O) ([(10,az b9 126 (bV q0.1 data.length (.slice none 0 0))),(11,az b11 75 (dD un sp))]) 13 rfl mixed ?_
    refine WE.take 0 [(10,az b9 126 (bV q0.1 data.length (.slice none 0 0))),(11,az b11 75 (dD un sp))] rfl an jE (aP [az b9 126 (bV q0.1 data.length (.slice none 0 0)),az b11 75 (dD un sp)] an cz dI fk) rfl rfl rfl ((by exact bj rfl G75 rfl aK ba rfl)) ?_
    refine WE.take 1 [] rfl an jE (aP [az b9 126 (bV q0.1 data.length (.slice none 0 0)),az b11 75 (dD un sp)] an cz dI fk) rfl rfl rfl ((by exact ak rfl ix rfl rfl)) ?_
    refine WE.take 2 [(10,az b9 126 (bV q0.1 data.length (.slice none 0 0))),(11,az b11 75 (dD un sp))] rfl an jE (aP [az b9 126 (bV q0.1 data.length (.slice none 0 0)),az b11 75 (dD un sp)] an cz dI fk) rfl rfl rfl ((by exact ax rfl C3 rfl aK (by rfl))) ?_
    refine WE.one 3 rfl an rfl ?_
    refine aj rfl rfl aZ an rfl rfl rfl ?_
    refine kN ao ?_
    refine⟨(aP [az b9 126 (bV q0.1 data.length (.slice none 0 0)),az b11 75 (dD un sp)] an cz dI fk),?_⟩
    refine WE.one 4 rfl an rfl ?_
    refine aj rfl rfl aZ an rfl rfl rfl ?_
    refine jr (n:=un) (f:=sp) (k:=bc data.length) (most:=64) ao hneed.1 hneed.2 ao ?_;intro v xs hvo hT hS
    refine⟨(aP [az b9 126 (bV q0.1 data.length (.slice none 0 0)),az b11 75 (dD un sp)] an cz dI fk),?_⟩
    refine WE.take 5 [] rfl an jE (aP [az b9 126 (bV q0.1 data.length (.slice none 0 0)),az b11 75 (dD un sp)] an cz dI fk) rfl rfl rfl (al rfl rfl) ?_
    refine WE.take 6 [] rfl an jE (aP [az b9 126 (bV q0.1 data.length (.slice none 0 0)),az b11 75 (dD un sp)] an cz dI fk) rfl rfl rfl (Rd.extract rfl rfl rfl) ?_
    refine WE.take 7 [] rfl an jE (aP [az b9 126 (bV q0.1 data.length (.slice none 0 0)),az b11 75 (dD un sp)] an cz dI fk) rfl rfl rfl (Rd.extract rfl rfl rfl) ?_
    refine WE.take 8 [] rfl an jE (aP [az b9 126 (bV q0.1 data.length (.slice none 0 0)),az b11 75 (dD un sp)] an cz dI fk) rfl rfl rfl (Rd.extract rfl rfl rfl) ?_
    refine WE.take 9 [] rfl an jE (aP [az b9 126 (bV q0.1 data.length (.slice none 0 0)),az b11 75 (dD un sp)] an cz dI fk) rfl rfl rfl ((by exact ak rfl fm rfl rfl)) ?_
    refine WE.one 10 rfl an rfl ?_
    refine aV rfl HK rfl rfl hvo bh (by show 2<3;omega) rfl ?_
    refine⟨(aP [az b11 75 (dD un sp)] an cz dI fk),?_⟩
    refine WE.one 11 rfl an rfl ?_
    refine aM rfl G75 rfl rfl ba bh rfl rfl ba rfl ?_
    refine⟨(aP [] an cz dI fk),?_⟩
    refine WE.take 12 [] rfl an jE (aP [] an cz dI fk) rfl rfl rfl (Rd.assign rfl rfl) ?_
    refine WE.done an ?_
    refine aa<|aD<|af rfl<|ab rfl (Rd.neq rfl rfl rfl)<|aw ?_
    refine aE rfl (λhc5=>?_) (λhc5=>?_)
    ·
     exact absurd rfl hc5
    ·
     refine ay<|aa<|bd<|ab rfl (by exact bj rfl G75 rfl aK ba rfl) ?_
     refine ab rfl (by exact ak rfl fm rfl rfl) ?_
     refine ab rfl (by exact ax rfl kW rfl aK (by rfl)) ?_
     refine aq rfl<|aj rfl rfl aZ an rfl rfl rfl ?_
     refine r6 (n:=un) (f:=bP true sp xs) (xs:=q0.2.2.2) aK ao (htk0'.congr λi hin=>by rw[iE];split;rfl;exact(htk0'.unit hin).2) ao ?_
     refine af rfl<|bH rfl<|bH rfl<|aq rfl<|aM rfl G75 rfl rfl ba bh rfl rfl ba rfl ?_
     refine ar rfl<|a7<|af rfl<|ab rfl (Rd.neq rfl rfl rfl)<|aw<|aE rfl (λhc6=>?_) (λhc6=>?_)
     ·
      exact absurd rfl hc6
     ·
      refine ay<|aa<|aF ?_
      rw[hun] at hT
      have hlx:=hT.len
      have hTm:=λx hx=>(hT.mem x hx).2.1
      have hW:jc n files (eB m) sp name data q0.1 xs:=⟨hg,hdl,hok0.e,λb y hb=>⟨λh=>hi.inv.fok.inj b name y _ hb hfn h,λh=>by subst h;rw[hfn] at hb;cases hb;rfl⟩,hT,hS,by omega⟩
      have hio:gE files name (miI (q0.1,data.length,v,xs)):=hW.ino hn.2
      have hfree2:bP false (bP true sp xs) q0.2.2.2=jP (bP true sp xs) (eB m name):=by rw[hfn];rfl
      rw[hfree2]
      refine WC.drawn (az b9 126 (bV q0.1 data.length v)::az b11 75 (dD un (jP (bP true sp xs) (eB m name)))::O) 11 rfl mixed ?_
      refine ae 0 rfl an aN rfl rfl rfl (al rfl rfl) ?_
      refine ae 1 rfl an aN rfl rfl rfl (al rfl rfl) ?_
      refine ae 2 rfl an aN rfl rfl rfl ((by exact bj rfl iM rfl aK ba rfl)) ?_
      refine ae 3 rfl an aN rfl rfl rfl ((by exact bj rfl G75 rfl aK ba rfl)) ?_
      refine ae 4 rfl an aN rfl rfl rfl (al rfl rfl) ?_
      refine ae 5 rfl an aN rfl rfl rfl ((by exact ak rfl fm rfl rfl)) ?_
      refine ae 6 rfl an aN rfl rfl rfl ((by exact ax rfl kW rfl aK (by rfl))) ?_
      refine ae 8 rfl an aN rfl rfl rfl (al rfl rfl) ?_
      refine aS 7 rfl an rfl ?_
      refine aj rfl rfl aZ an rfl rfl rfl ?_
      refine iz (s:=s) (files:=files) (xs:=xs) aK aK rfl ao ao (λx hx=>by have:=hTm x hx;omega) ?_;intro v75
      refine⟨aN,?_⟩
      refine aS 9 rfl an rfl ?_
      refine aj rfl rfl aZ an rfl rfl rfl ?_
      refine Fun.heap (R':=SlE (SL.one vi) v75 (eI (bT (7+files) xs))::SlE cW v xs::SlE cW q0.2.2.1 q0.2.2.2::R) (O':=stO s d l mb un files sp false m V D (az b9 126 (bV q0.1 data.length v)::az b11 75 (dD un (jP (bP true sp xs) (eB m name)))::O)) bN ?_
      refine lB (q:=(q0.1,data.length,v,xs)) (L:=bT (7+files) xs) (by repeat(first|exact ht|refine List.mem_cons_of_mem _ ?_)) (by repeat(first|exact hlog|refine List.mem_cons_of_mem _ ?_)) (by repeat(first|exact hall|refine List.mem_cons_of_mem _ ?_)) (List.mem_cons_of_mem _ List.mem_cons_self) hio hfs List.mem_cons_self (by rw[dC];omega) (hi.fits ao) dk ao hv (by repeat(first|exact hkeep|refine List.mem_cons_of_mem _ ?_)) ao ?_
      intro V' p hp hv' hkv'
      refine⟨aN,?_⟩
      refine ae 10 rfl an aN rfl rfl rfl (Rd.assign rfl rfl) ?_
      refine WD.done an ?_
      refine aa<|WC.ret (Ret.one Tryz.results29 rfl ?_)
      exact⟨_,_,hk V' p q0.1 v xs hW hp hv' hkv',bN⟩
end
end Go.Proofs.YtebpkhlifcffnaaGreatDoor.Fs
namespace Go.Proofs.YtebpkhlifcffnaaGreatDoor.Fs
open Go Go.SL
section
variable{R:List RO}{O:List Own}{POST:Value->List RO->List Own->Prop}{s d l mb un files k:Nat}{sp:Nat->Bool}{m:aO Tx MI}{V:DV}{D:DSt}
set_option maxRecDepth 20000 in
theorem zt{xs:List Ext}{av:Value}(ha:SlE cW av xs∈R)(hb:xs.length<=100000)(hk: ∀v,bL v->POST v R (bt 157 2 cW v xs::O)):Fun Tryz.prog 80 #[av] R O POST:=by
 refine Fun.oR (φ:= ∃a c,av= .slice a xs.length c/\(a=none->xs.length=0)) ha (λw h=>by
  obtain⟨a,c,h1,_,_,h2,_⟩:=h
  exact⟨a,c,h1,h2⟩) ?_
 rintro⟨a,c,rfl,hn⟩
 refine aC (l:=[_]) Tryz.func80 rfl Tryz.ntmps80 rfl (L0:=[(0,_)]) rfl ?_
 refine aD<|ar rfl<|aw<|bd<|af rfl<|ab rfl (mf rfl Tryz.underlying124 rfl rfl)<|aw ?_
 refine WC.cond rfl (λhc1=>?_) (λhc1=>?_)
 ·
  refine aD<|ar rfl<|aw ?_
  obtain rfl:xs=[]:=List.length_eq_zero_iff.1 (hn (by simpa using hc1))
  refine WC.heap (λw h=>h.dH (α:=Ext) (e:=157) (size:=2) (enc:=cW)) ?_
  refine WC.ret (Ret.one Tryz.results80 rfl ?_)
  exact hk _ bL.sl
 ·
  refine ay<|aa<|aD<|aq rfl<|aX (ps:=[]) rfl tI aZ rfl rfl fy an rfl rfl rfl ?_;intro b5
  refine af rfl<|WL.heap (λw h=>h.lz (α:=Ext) (enc:=cW) (size:=2) (xs:=[]) bh rfl rfl (λ_=>rfl) (Nat.zero_le _)) ?_
  refine aq rfl<|c7 (enc:=cW) rfl tI Tryz.underlying124 rfl rfl bh aK ie ie (by exact⟨by simp only[maxLen,List.length_append,List.length_nil,List.length_cons,List.length_drop,List.length_take,List.length_map];omega,by(simp only[List.length_append,List.length_nil,List.length_cons,List.length_drop,List.length_take,List.length_map];omega)⟩) rfl rfl ?_;intro v7 hv7
  refine ar rfl<|aw<|WC.ret (Ret.one Tryz.results80 rfl ?_)
  exact hk _ hv7
def OM(POST:Value->List RO->List Own->Prop)(R:List RO)(O:List Own)(s d l mb un files n:Nat)(sp:Nat->Bool)(m:aO Tx MI)(V:DV)(D:DSt)(name data:Tx)(q0:MI):Prop:=
 ∀V' p v xs,oQ n files (eB m) sp name data (miI q0) xs->p=opS D ((2+files:Nat):Int) 5 (fM (7+files) (miI q0) xs) (kj D.aJ (7+files) (miI q0) data) (spB un (bP true sp xs)) [(q0.1,bW name (qo (miI q0) data xs))]->VOk V' p.1->V'.kv=V.kv->
  POST (.int .i64 (p.2:Nat)) (allM (if p.2=0 then m.set name (q0.1,q0.2.1+data.length,v,q0.2.2.2++xs) else m)::R) (stO s d l mb un files (if p.2=0 then bP true sp xs else sp) (decide (p.2≠0)) (if p.2=0 then m.set name (q0.1,q0.2.1+data.length,v,q0.2.2.2++xs) else m) V' p.1 O)
set_option maxRecDepth 20000 in
set_option maxHeartbeats 8000000 in
theorem Ae{n:Nat}{name data:Tx}{q0:MI}(hmg:m.get name=some q0)(hg:oU name)(hi:Mnt n files (eB m) sp D)(hun:un=n-(7+files))(hn:7+files<n/\n<=4096)(hfs:files<=256)(hne:data≠ [])(hdl:q0.2.1+data.length<=1048576)(hneed:bc (q0.2.1+data.length)-bc q0.2.1<=fD sp un/\bc (q0.2.1+data.length)<=64)(ht:ea∈R)(hlog:gP l d ((2+files:Nat):Int) 5∈R)(hall:allM m∈R)
 (dk:Dk D k) (hm:k<=4294700000) (hv:VOk V D) (hkeep:SlE (SL.one vi) V.kv D.keep∈R) (hk:OM POST R O s d l mb un files n sp m V D name data q0):
 Fun Tryz.prog 38 #[dp s,vs name,vs data] R (stO s d l mb un files sp false m V D O) POST:=by
 refine bp ?_
 have hfn:=mo hmg
 have hok0:=hi.inv.fok.ok name _ hfn
 have htk0:=hi.inv.fok.tk name _ hfn
 have hl0:=htk0.len
 have hs0:cY q0.2.2.2=bc q0.2.1:=hok0.sum
 have hl0':q0.2.2.2.length<=bc q0.2.1:=by rw[←hs0];exact hl0
 have hmono:bc q0.2.1<=bc (q0.2.1+data.length):=by unfold bc;omega
 have hdpos:0<data.length:=List.length_pos_iff.2 hne
 have hlen:=hi.inv.len
 have hsl:(eI (bT (7+files) q0.2.2.2)).length=bc q0.2.1:=by rw[eA,dC,hs0]
 refine Fun.oR (φ:=bL q0.2.2.1) hall (λw h=>SlE.sJ (h name q0 hmg)) λhone=>?_
 refine aC (l:=[_,_,_]) Tryz.func38 rfl Tryz.ntmps38 rfl (L0:=[(0,_),(1,_),(2,_)]) rfl ?_
 refine aD<|ar rfl<|a7<|af rfl<|af rfl ?_
 refine aq rfl<|aj rfl rfl aZ an rfl rfl rfl ?_
 refine rj hmg hg hi.cl.off hall ?_
 refine af rfl<|bH rfl<|bH rfl<|aq rfl<|OpW.alloc rfl lA rfl ba rfl rfl ?_;intro b7
 refine aq rfl<|aM (h1:=by simp only[List.all_cons,List.all_nil,hone.one];rfl) rfl iM rfl rfl ba bh rfl rfl ba rfl ?_
 refine ar rfl<|aw<|bd<|af rfl<|ab rfl (Rd.neq rfl rfl rfl)<|aw<|aE rfl (λhc1=>?_) (λhc1=>?_)
 ·
  exact absurd rfl hc1
 ·
  refine ay<|aa<|aF<|WC.block ?_
  refine aD<|af rfl<|ab rfl (cg (ts:=#[]) (ty:=0) rfl rfl Tryz.underlying9) ?_
  refine ab rfl (by exact ak rfl ix rfl rfl) ?_
  refine ab rfl (by exact ax rfl C3 rfl aK (by rfl)) ?_
  refine ab rfl (Rd.sub rfl rfl rfl ao) ?_
  refine ab rfl (Rd.gtr rfl rfl rfl)<|ar rfl<|aw<|aE rfl (λhc2=>?_) (λhc2=>?_)
  ·
   omega
  ·
   refine aD<|af rfl<|ab rfl (lq rfl rfl rfl)<|ar rfl<|aw ?_
   refine aE rfl (λhc3=>?_) (λhc3=>?_)
   ·
    (exfalso;exact hne (by simpa using hc3))
   ·
    refine ay<|aA<|aa<|aD<|af rfl<|ab rfl (by exact ak rfl fm rfl rfl) ?_
    refine ab rfl (by exact ax rfl kW rfl aK (by rfl)) ?_
    refine aq rfl<|aj rfl rfl aZ an rfl rfl rfl ?_
    refine iz (s:=s) (files:=files) (xs:=q0.2.2.2) aK aK rfl ao ao (λx hx=>(hok0.ext x hx).2) ?_;intro v39
    refine ar rfl<|aw<|WC.cut (α:=Value×List Ext×Nat) (λq=>[(0,dp s),(1,vs name),(2,vs data),(7,.pointer (some ⟨b7,0,none⟩)),(8,.int .i64 0),(9,v39),(10,q.1),(11,.pointer (some ⟨q.2.2,0,none⟩))]) (λq=>SlE cW q.1 q.2.1::SlE (SL.one vi) v39 (eI (bT (7+files) q0.2.2.2))::SlE cW q0.2.2.1 q0.2.2.2::R) (λq=>az b7 126 (bV q0.1 q0.2.1 q0.2.2.1)::az q.2.2 75 (dD un (bP true sp q.2.1))::stO s d l mb un files sp false m V D O) (λq=>bL q.1/\bU un true sp q.2.1/\cY q.2.1=bc (q0.2.1+data.length)-bc q0.2.1) ?_ ?_
    ·
     refine WC.drawn (az b7 126 (bV q0.1 q0.2.1 q0.2.2.1)::stO s d l mb un files sp false m V D O) 26 rfl mixed ?_
     refine ae 0 rfl an aN rfl rfl rfl (al rfl rfl) ?_
     refine ae 1 rfl an aN rfl rfl rfl (aL rfl rfl) ?_
     refine ae 2 rfl an aN rfl rfl rfl ((by exact ak rfl xJ rfl rfl)) ?_
     refine ae 3 rfl an aN rfl rfl rfl (bj (b:=s) rfl G75 rfl aK ba rfl) ?_
     refine ae 4 rfl an aN rfl rfl rfl ((by exact ak rfl ix rfl rfl)) ?_
     refine ae 5 rfl an aN rfl rfl rfl ((by exact ax rfl C3 rfl aK (by rfl))) ?_
     refine ae 6 rfl an aN rfl rfl rfl (al rfl rfl) ?_
     refine ae 7 rfl an aN rfl rfl rfl (cg (ts:=#[]) (ty:=0) rfl rfl Tryz.underlying9) ?_
     refine ae 8 rfl an aN rfl rfl rfl (Rd.add rfl rfl rfl ao) ?_
     refine ae 10 rfl an aN rfl rfl rfl (al rfl rfl) ?_
     refine ae 11 rfl an aN rfl rfl rfl (bu (enc:=SL.one vi) (xs:=eI (bT (7+files) q0.2.2.2)) rfl rfl Tryz.underlying23 aK) ?_
     refine ae 13 rfl an aN rfl rfl rfl ((by exact ak rfl fm rfl rfl)) ?_
     refine ae 14 rfl an aN rfl rfl rfl ((by exact ax rfl kW rfl aK (by rfl))) ?_
     refine ae 15 rfl an aN rfl rfl rfl (bu (enc:=cW) (xs:=q0.2.2.2) rfl rfl Tryz.underlying124 aK) ?_
     refine ae 16 rfl an aN rfl rfl rfl (Rd.sub rfl rfl rfl ao) ?_
     refine WD.say 57 (u:=.int .i64 ((64-q0.2.2.2.length:Nat):Int)) rfl (by congr 1;omega) ?_
     refine WD.two 9 22 rfl rfl an rfl rfl ?_ ?_
     ·
      refine aj rfl rfl aZ an rfl rfl rfl ?_
      refine kN (n:=q0.2.1+data.length) ao ?_
      refine⟨aN,?_⟩
      refine ae 12 rfl an aN rfl rfl rfl (Rd.sub rfl rfl rfl ao) ?_
      refine WD.say 53 (u:=.int .i64 ((bc (q0.2.1+data.length)-bc q0.2.1:Nat):Int)) rfl (by rw[eA,dC,hs0];congr 1;omega) ?_
      refine WD.two 17 22 rfl rfl an rfl rfl ?_ ?_
      ·
       refine aj rfl rfl aZ an rfl rfl rfl ?_
       refine jr (n:=un) (f:=sp) (k:=bc (q0.2.1+data.length)-bc q0.2.1) (most:=64-q0.2.2.2.length) ao hneed.1 ao ao ?_;intro v xs hvo hT hS
       refine⟨aN,?_⟩
       refine ae 18 rfl an aN rfl rfl rfl (al rfl rfl) ?_
       refine ae 19 rfl an aN rfl rfl rfl (Rd.extract rfl rfl rfl) ?_
       refine ae 20 rfl an aN rfl rfl rfl (Rd.extract rfl rfl rfl) ?_
       refine ae 21 rfl an aN rfl rfl rfl (Rd.extract rfl rfl rfl) ?_
       refine aS 22 rfl an rfl ?_
       refine OpW.alloc rfl I75 rfl ba rfl rfl ?_;intro b11
       refine⟨aN,?_⟩
       refine ae 23 rfl an aN rfl rfl rfl (Rd.assign rfl rfl) ?_
       refine aS 24 rfl an rfl ?_
       refine aM rfl G75 rfl rfl ba bh rfl rfl ba rfl ?_
       refine⟨aN,?_⟩
       refine ae 25 rfl an aN rfl rfl rfl (Rd.assign rfl rfl) ?_
       refine WD.done an ?_
       exact⟨(v,xs,b11),⟨hvo,hT,hS⟩,cC,bN⟩
      ·
       refine OpW.alloc rfl I75 rfl ba rfl rfl ?_;intro b11
       refine⟨aN,?_⟩
       refine aS 17 rfl an rfl ?_
       refine aj rfl rfl aZ an rfl rfl rfl ?_
       refine jr (n:=un) (f:=sp) (k:=bc (q0.2.1+data.length)-bc q0.2.1) (most:=64-q0.2.2.2.length) ao hneed.1 ao ao ?_;intro v xs hvo hT hS
       refine⟨aN,?_⟩
       refine ae 18 rfl an aN rfl rfl rfl (al rfl rfl) ?_
       refine ae 19 rfl an aN rfl rfl rfl (Rd.extract rfl rfl rfl) ?_
       refine ae 20 rfl an aN rfl rfl rfl (Rd.extract rfl rfl rfl) ?_
       refine ae 21 rfl an aN rfl rfl rfl (Rd.extract rfl rfl rfl) ?_
       refine ae 23 rfl an aN rfl rfl rfl (Rd.assign rfl rfl) ?_
       refine aS 24 rfl an rfl ?_
       refine aM rfl G75 rfl rfl ba bh rfl rfl ba rfl ?_
       refine⟨aN,?_⟩
       refine ae 25 rfl an aN rfl rfl rfl (Rd.assign rfl rfl) ?_
       refine WD.done an ?_
       exact⟨(v,xs,b11),⟨hvo,hT,hS⟩,cC,bN⟩
     ·
      refine OpW.alloc rfl I75 rfl ba rfl rfl ?_;intro b11
      refine⟨aN,?_⟩
      refine aS 9 rfl an rfl ?_
      refine aj rfl rfl aZ an rfl rfl rfl ?_
      refine kN (n:=q0.2.1+data.length) ao ?_
      refine⟨aN,?_⟩
      refine ae 12 rfl an aN rfl rfl rfl (Rd.sub rfl rfl rfl ao) ?_
      refine WD.say 53 (u:=.int .i64 ((bc (q0.2.1+data.length)-bc q0.2.1:Nat):Int)) rfl (by rw[eA,dC,hs0];congr 1;omega) ?_
      refine aS 17 rfl an rfl ?_
      refine aj rfl rfl aZ an rfl rfl rfl ?_
      refine jr (n:=un) (f:=sp) (k:=bc (q0.2.1+data.length)-bc q0.2.1) (most:=64-q0.2.2.2.length) ao hneed.1 ao ao ?_;intro v xs hvo hT hS
      refine⟨aN,?_⟩
      refine ae 18 rfl an aN rfl rfl rfl (al rfl rfl) ?_
      refine ae 19 rfl an aN rfl rfl rfl (Rd.extract rfl rfl rfl) ?_
      refine ae 20 rfl an aN rfl rfl rfl (Rd.extract rfl rfl rfl) ?_
      refine ae 21 rfl an aN rfl rfl rfl (Rd.extract rfl rfl rfl) ?_
      refine ae 23 rfl an aN rfl rfl rfl (Rd.assign rfl rfl) ?_
      refine aS 24 rfl an rfl ?_
      refine aM rfl G75 rfl rfl ba bh rfl rfl ba rfl ?_
      refine⟨aN,?_⟩
      refine ae 25 rfl an aN rfl rfl rfl (Rd.assign rfl rfl) ?_
      refine WD.done an ?_
      exact⟨(v,xs,b11),⟨hvo,hT,hS⟩,cC,bN⟩
    ·
     rintro⟨v,xs,b11⟩ ⟨hvo,hT,hS⟩
     dsimp only at hvo hT hS⊢
     rw[hun] at hT
     have hlx:=hT.len
     have hTm:=λx hx=>(hT.mem x hx).2.1
     have hW:oQ n files (eB m) sp name data (miI q0) xs:=⟨hfn,hdl,hne,hT,hS,by show q0.2.2.2.length+xs.length<=64;omega⟩
     have hio:gE files name (miI (q0.1,q0.2.1+data.length,v,q0.2.2.2++xs)):=hW.ino hi.inv.fok hn.2
     have hta:du (miI q0)=q0.2.1%512:=rfl
     refine bd<|af rfl<|ab rfl (Rd.neq rfl rfl rfl)<|aw ?_
     refine aE rfl (λhc4=>?_) (λhc4=>?_)
     ·
      exact absurd rfl hc4
     ·
      refine ay<|aa<|aD<|af rfl<|af rfl ?_
      refine aq rfl<|aj rfl rfl aZ an rfl rfl rfl ?_
      refine iz (s:=s) (files:=files) (xs:=xs) aK aK rfl ao ao (λx hx=>by have:=hTm x hx;omega) ?_;intro v66
      refine ar rfl<|aw<|WC.cut (α:=Value) (λq=>[(0,dp s),(1,vs name),(2,vs (kj D.aJ (7+files) (miI q0) data)),(7,.pointer (some ⟨b7,0,none⟩)),(10,v),(11,.pointer (some ⟨b11,0,none⟩)),(12,q)]) (λq=>SlE (SL.one vi) q (eI (fM (7+files) (miI q0) xs))::SlE cW v xs::SlE cW q0.2.2.1 q0.2.2.2::R) (λq=>az b7 126 [.int .i64 (q0.1:Int),.int .i64 ((q0.2.1-du (miI q0):Nat):Int),q0.2.2.1]::az b11 75 (dD un (bP true sp xs))::stO s d l mb un files sp false m V D O) (λ_=>True) ?_ ?_
      ·
       refine aD<|ab rfl (by exact ak rfl ix rfl rfl) ?_
       refine ab rfl (by exact ax rfl C3 rfl aK (by rfl)) ?_
       refine ab rfl (gL (a:=q0.2.1) (b:=512) rfl rfl rfl rfl rfl ao) ?_
       refine ar rfl<|a7<|af rfl<|ab rfl (Rd.gtr rfl rfl rfl)<|aw<|aE rfl (λhc5=>?_) (λhc5=>?_)
       ·
        have htp:0<du (miI q0):=by rw[hta];omega
        have hul:(bT (7+files) q0.2.2.2).length=bc q0.2.1:=by rw[dC,hs0]
        have hnp:0<bc q0.2.1:=by unfold bc;rw[hta] at htp;omega
        have hlm:=jO hi.inv hfn _ (lT (da:=7+files) hok0.sum htp)
        have hra:=lf hi.cl.off hi.cl.since hlm.2
        have hwl:(D.aJ[eK (7+files) (miI q0)]!).length=512:=by rw[getElem!_pos D.aJ _ hlm.2];exact hi.inv.w _ (List.getElem_mem _)
        refine aD<|af rfl<|af rfl<|ab rfl (bu (enc:=SL.one vi) (xs:=eI (bT (7+files) q0.2.2.2)) rfl rfl Tryz.underlying23 aK) ?_
        refine ab rfl (Rd.sub rfl rfl rfl ao) ?_
        refine aU 75 (u:=.int .i64 (((bT (7+files) q0.2.2.2).length-1:Nat):Int)) rfl (by rw[eA];congr 1;omega) ?_
        refine ab rfl (c9 (enc:=SL.one vi) (xs:=eI (bT (7+files) q0.2.2.2)) (k:=(bT (7+files) q0.2.2.2).length-1) rfl S23 rfl rfl rfl aK (by rw[eA];omega)) ?_
        refine ab rfl (Rd.get (g:=vi) (xs:=eI (bT (7+files) q0.2.2.2)) (k:=(bT (7+files) q0.2.2.2).length-1) (a:=((eK (7+files) (miI q0):Nat):Int)) rfl C3 rfl aK (tT ao)) ?_
        refine ar rfl<|a7<|af rfl<|ab rfl (aL rfl rfl)<|ab rfl (by exact ak rfl sn rfl rfl) ?_
        refine ab rfl (ax (off:=0) (u:=dp d) rfl C25 rfl (b:=s) aK rfl) ?_
        refine af rfl<|aq rfl<|aj rfl rfl aZ an rfl rfl rfl ?_
        refine Fun.heap (R':=SlE (SL.one vi) v66 (eI (bT (7+files) xs))::SlE cW v xs::SlE (SL.one vi) v39 (eI (bT (7+files) q0.2.2.2))::SlE cW q0.2.2.1 q0.2.2.2::R) (O':=dO d V D (az b7 126 (bV q0.1 q0.2.1 q0.2.2.1)::az b11 75 (dD un (bP true sp xs))::oY s d l mb un files sp false::fl vs miV mb m::O)) bN ?_
        refine iY (dk.ok.mono ao) ?_
        rw[hra]
        dsimp only
        refine af rfl<|bH rfl<|bH rfl<|ar rfl<|ar rfl<|aw<|bd<|af rfl<|ab rfl (Rd.neq rfl rfl rfl)<|aw<|aE rfl (λhc6=>?_) (λhc6=>?_)
        ·
         exact absurd rfl hc6
        ·
         refine ay<|aa<|aF<|WC.drawn (O) 11 rfl mixed ?_
         refine ae 0 rfl an aN rfl rfl rfl (al rfl rfl) ?_
         refine ae 2 rfl an aN rfl rfl rfl (al rfl rfl) ?_
         refine ae 4 rfl an aN rfl rfl rfl (al rfl rfl) ?_
         refine ae 5 rfl an aN rfl rfl rfl (al rfl rfl) ?_
         refine ae 6 rfl an aN rfl rfl rfl (gi (hi:=q0.2.1%512) rfl Tryz.underlying9 rfl rfl rfl ao) ?_
         refine ae 7 rfl an aN rfl rfl rfl (al rfl rfl) ?_
         refine ae 8 rfl an aN rfl rfl rfl (cA rfl rfl rfl (by rw[List.length_take];omega)) ?_
         refine aS 1 rfl an rfl ?_
         refine aX (ps:=[(0,_)]) rfl S23 aZ rfl rfl fy an rfl rfl rfl ?_;intro b91
         refine⟨aN,?_⟩
         refine WD.heap (λw h=>Sat.lz (enc:=SL.one vi) (size:=1) (m:=1) (xs:=[((eK (7+files) (miI q0):Nat):Int)]) bh rfl rfl (λ_=>rfl) ao h) ?_
         refine aS 3 rfl an rfl ?_
         have hroom:zG ([((eK (7+files) (miI q0):Nat):Int)].length+(eI (bT (7+files) xs)).length) 8:=⟨by show _<=9223372036854775807;rw[eA,dC];simp;omega,by rw[eA,dC];simp;omega⟩
         refine c7 (enc:=SL.one vi) rfl S23 Tryz.underlying23 rfl rfl bh (ys:=eI (bT (7+files) xs)) aK ie ie (by assumption) rfl rfl ?_;intro v93 hv93
         refine⟨aN,?_⟩
         refine ae 9 rfl an aN rfl rfl rfl (Rd.assign rfl rfl) ?_
         refine ae 10 rfl an aN rfl rfl rfl (Rd.assign rfl rfl) ?_
         refine WD.done an ?_
         refine aa<|aB<|ab rfl (by exact ak rfl ix rfl rfl) ?_
         refine ab rfl (by exact ax rfl C3 rfl aK (by rfl)) ?_
         refine af rfl<|ab rfl (Rd.sub rfl rfl rfl ao) ?_
         refine aU 102 (u:=.int .i64 ((q0.2.1-du (miI q0):Nat):Int)) rfl (by rw[hta];congr 1;omega) ?_
         refine ab rfl (by exact ak rfl ix rfl rfl) ?_
         refine aq rfl<|aV rfl Z3 rfl rfl (by exact⟨rfl,rfl⟩) bh (by(simp;done)) rfl ?_
         refine aG ?_
         exact⟨v93,trivial,(by
         have e1:kj D.aJ (7+files) (miI q0) data=(D.aJ[eK (7+files) (miI q0)]!).take (q0.2.1%512)++data:=by unfold kj;rw[if_pos htp];rfl
         rw[e1]
         exact cC),(λw h=>by
         have e2:eI (fM (7+files) (miI q0) xs)=((eK (7+files) (miI q0):Nat):Int)::eI (bT (7+files) xs):=by unfold fM;rw[if_pos htp];rfl
         rw[e2]
         have h2:=Sat.eE (e:=3) (size:=1) (enc:=SL.one vi) (v:=v93) (xs:=[((eK (7+files) (miI q0):Nat):Int)]++eI (bT (7+files) xs)) bh h
         exact dj h2)⟩
       ·
        have htp: ¬0<du (miI q0):=by rw[hta];omega
        refine ay ?_
        exact⟨v66,trivial,(by
        have e1:kj D.aJ (7+files) (miI q0) data=data:=by unfold kj;rw[if_neg htp]
        rw[e1]
        exact cC),(λw h=>by
        have e2:fM (7+files) (miI q0) xs=bT (7+files) xs:=by unfold fM;rw[if_neg htp]
        have e3:q0.2.1-du (miI q0)=q0.2.1:=by omega
        rw[e2,e3]
        exact dj h)⟩
      ·
       rintro vl -
       have hdl2:(kj D.aJ (7+files) (miI q0) data).length=du (miI q0)+data.length:=by
        unfold kj
        split
        ·rename_i hp;rw[List.length_append,tW hi.inv hW hp]
        ·omega
       have htl:du (miI q0)<=512/\du (miI q0)<=q0.2.1:=by rw[hta];omega
       refine aD<|ab rfl (by exact ak rfl ix rfl rfl) ?_
       refine ab rfl (by exact ax rfl C3 rfl aK (by rfl)) ?_
       refine af rfl<|ab rfl (cg (ts:=#[]) (ty:=0) rfl rfl Tryz.underlying9) ?_
       refine ab rfl (Rd.add rfl rfl rfl ao) ?_
       refine aU 108 (u:=.int .i64 ((q0.2.1+data.length:Nat):Int)) rfl (by rw[hdl2];congr 1;omega) ?_
       refine ab rfl (by exact ak rfl ix rfl rfl) ?_
       refine aq rfl<|aV rfl Z3 rfl rfl (by exact⟨rfl,rfl⟩) bh (by(simp;done)) rfl ?_
       refine a7<|ab rfl (by exact ak rfl fm rfl rfl) ?_
       refine ab rfl (by exact ax rfl kW rfl aK (by rfl)) ?_
       refine aq rfl<|aj rfl rfl aZ an rfl rfl rfl ?_
       refine zt (xs:=q0.2.2.2) aK ao ?_;intro v112 hv112
       refine af rfl<|aq rfl<|c7 (enc:=cW) rfl tI Tryz.underlying124 rfl rfl bh (ys:=xs) aK ie ie (by exact⟨by simp only[maxLen,List.length_append,List.length_nil,List.length_cons,List.length_drop,List.length_take,List.length_map];omega,by omega⟩) rfl rfl ?_;intro v114 hv114
       refine ab rfl (by exact ak rfl fm rfl rfl) ?_
       refine aq rfl<|aV rfl HK rfl rfl hv114 bh (by show 2<3;omega) rfl ?_
       refine aw<|aF<|WC.heap (λw h=>Sat.eE (e:=157) (size:=2) (enc:=cW) (v:=v114) (xs:=q0.2.2.2++xs) bh h) ?_
       refine aB<|af rfl<|af rfl<|ab rfl (by exact bj rfl iM rfl aK ba rfl) ?_
       refine ab rfl (by exact bj rfl G75 rfl aK ba rfl) ?_
       refine af rfl<|af rfl<|aq rfl<|aj rfl rfl aZ an rfl rfl rfl ?_
       refine Fun.heap (R':=SlE cW v114 (q0.2.2.2++xs)::SlE (SL.one vi) vl (eI (fM (7+files) (miI q0) xs))::R) (O':=stO s d l mb un files sp false m V D O) bN ?_
       refine lB (q:=(q0.1,q0.2.1+data.length,v114,q0.2.2.2++xs)) (L:=fM (7+files) (miI q0) xs) (by repeat(first|exact ht|refine List.mem_cons_of_mem _ ?_)) (by repeat(first|exact hlog|refine List.mem_cons_of_mem _ ?_)) (by repeat(first|exact hall|refine List.mem_cons_of_mem _ ?_)) List.mem_cons_self hio hfs (List.mem_cons_of_mem _ List.mem_cons_self) (by unfold fM;split<;>simp[dC]<;>omega) (hi.fits ao) dk ao hv (by repeat(first|exact hkeep|refine List.mem_cons_of_mem _ ?_)) ao ?_
       intro V' p hp hv' hkv'
       refine ar rfl<|aw<|WC.ret (Ret.one Tryz.results38 rfl ?_)
       exact⟨_,_,hk V' p v114 xs hW hp hv' hkv',bN⟩
end
end Go.Proofs.YtebpkhlifcffnaaGreatDoor.Fs


namespace Go.Proofs.YtebpkhlifcffnaaGreatDoor.Fs
open Go Go.SL
def fmtC(n files i:Nat):Chg:=((i:Int),if i=0 then gD n files else [])
def jw(n files:Nat):List Chg:=(List.range (files+3)).map (fmtC n files)
theorem s9(n files:Nat):(jw n files).length=files+3:=by unfold jw;simp
theorem uf(n files:Nat):(gD n files).length=512:=fH (by show 6<=512;omega)
theorem Pv{n files:Nat}(h:files+3<=n):OkC n (jw n files):=λc hc=>by
 obtain⟨i,hi,rfl⟩:=List.mem_map.1 hc
 rw[List.mem_range] at hi
 refine⟨by show(0:Int)<=(i:Int);omega,by show(i:Int)<_;omega,?_⟩
 show(if i=0 then gD n files else []).length<=512
 split
 ·rw[uf];exact Nat.le_refl _
 ·exact Nat.zero_le _
theorem zD{n files j:Nat}(h:j<files+3):(jw n files).drop j=fmtC n files j::(jw n files).drop (j+1):=by
 rw[List.drop_eq_getElem_cons (by rw[s9];exact h)]
 congr 1
 simp[jw]
structure On0(t:DSt)(n:Nat):Prop where
 off:t.off=false
 left:t.left=0
 len:t.aJ.length=n
theorem On0.put{t:DSt}{n:Nat}(h:On0 t n){i:Int}{d:Tx}(hi:0<=i/\i<(n:Int))(hd:d.length<=512):eM t i d=0/\On0 (eL t i d) n:=by
 have hb:qW t i d=false:=by
  unfold qW hasB
  rw[decide_eq_false_iff_not,h.len]
  simp only[decide_eq_true_eq]
  omega
 have hnb: ¬qW t i d=true:=by rw[hb];exact Bool.false_ne_true
 obtain⟨e1,e2⟩:=jA (s:=t) (by rw[h.off];exact Bool.false_ne_true) (by rw[h.left];omega)
 have hlen:=oG t i d
 refine⟨by unfold eM;rw[if_neg hnb,e1],?_,?_,by rw[hlen];exact h.len⟩
 ·unfold eL;rw[if_neg hnb,e1,if_pos rfl,e2];exact h.off
 ·unfold eL;rw[if_neg hnb,e1,if_pos rfl,e2];show t.left-1=0;rw[h.left]
theorem On0.sync{t:DSt}{n:Nat}(h:On0 t n):eN t=0:=(jA (s:=t) (by rw[h.off];exact Bool.false_ne_true) (by rw[h.left];omega)).1
theorem Mv{n files:Nat}{s:DSt}(hs:s.off=false)(hl:s.left=0)(hsi:s.since=[])(hz:s.aJ=List.replicate n gG)(hf:1<=files)(hn:8+files<=n)(hn2:n<=4096):(cF s (jw n files)).2=0/\Mnt n files (λ_=>none) jQ (cF s (jw n files)).1/\(cF s (jw n files)).1.left=0:=by
 have hlen:s.aJ.length=n:=by rw[hz,List.length_replicate]
 obtain⟨a1,a2⟩:=jo (x:=jw n files) hs hsi (by rw[hlen];exact Pv ao)
 rcases a2 with⟨b1,b2,b3,b4⟩|⟨b0,_⟩
 ·have hne: ∀(y:List Chg) (L:List Tx),(∀c∈y,c.1≠0->c.2=[])-> ∀i,0<i->L[i]? =some gG->(a6 y L)[i]? =some gG:=by
   intro y
   induction y with
   |nil=>intro L _ i _ h;exact h
   |cons c r ih=>
    intro L hc i hi h
    refine ih (iv L c) (λd hd=>hc d (List.mem_cons_of_mem _ hd)) i hi ?_
    by_cases e:c.1.toNat=i
    ·rw[j9 e (List.getElem?_eq_some_iff.1 h).1,hc c List.mem_cons_self ao];rfl
    ·rw[KO e];exact h
  have hk: ∀c∈jw n files,c.1≠0->c.2=[]:=λc hc h0=>by
   obtain⟨i,hi,rfl⟩:=List.mem_map.1 hc
   show(if i=0 then gD n files else [])=[]
   rw[if_neg (λe=>h0 (by show(i:Int)=0;omega))]
  have hzi: ∀i,0<i->i<n->(cF s (jw n files)).1.aJ[i]? =some gG:=λi h0 h1=>by
   rw[b3]
   exact hne _ _ hk i h0 (by rw[hz,List.getElem?_replicate,if_pos h1])
  have h0:(cF s (jw n files)).1.aJ[0]? =some (gD n files):=by
   have e:=zD (n:=n) (files:=files) (j:=0) ao
   rw[List.drop_zero] at e
   rw[b3,e]
   show(a6 ((jw n files).drop 1) (iv s.aJ (fmtC n files 0)))[0]? =_
   rw[bk _ _ 0 (λc hc=>?_),j9 (by rfl) ao]
   ·show some (bF (gD n files))=_
    rw[show gD n files=bF ([83,70]++Bq n++Bq files) from rfl,oC (by show 6<=512;omega)]
   ·unfold jw at hc
    rw[←List.map_drop] at hc
    obtain⟨i,hi,rfl⟩:=List.mem_map.1 hc
    have:1<=i:=by
     rw[List.range_eq_range',List.drop_range'] at hi
     have:=(List.mem_range'_1.1 hi).1;omega
    show(i:Int).toNat≠0
    omega
  have hlast:(cF s (jw n files)).1.aJ.length=n:=by rw[b3,dJ];exact hlen
  refine⟨b1,⟨⟨⟨λ_ _ h=>(by cases h),λ_ _ _ _ h=>(by cases h),λ_ _ h=>(by cases h),λ_ _ _ _ _ h=>(by cases h),λ_ h=>(by cases h)⟩,hlast,?_,h0,?_,λi hi=>.inr ⟨λ_ _ h=>(by cases h),hzi _ ao ao⟩⟩,⟨b2,a1,hlast,hzi _ ao ao⟩⟩,b4 hl⟩
  ·intro l hl2
   obtain⟨i,hi,rfl⟩:=List.getElem_of_mem hl2
   by_cases e:i=0
   ·subst e
    have:=(List.getElem?_eq_some_iff.1 h0).2
    rw[this];exact uf _ _
   ·have:=(List.getElem?_eq_some_iff.1 (hzi i ao ao)).2
    rw[this];exact List.length_replicate
  ·rw[hzi 1 ao ao,z7]
   congr 1
   unfold bF gG
   rw[List.length_replicate,List.replicate_append_replicate]
   congr 1;omega
 ·exact absurd hl b0
section
variable{R:List RO}{O:List Own}{POST:Value->List RO->List Own->Prop}{d files k:Nat}{V:DV}{D:DSt}
set_option maxRecDepth 20000 in
set_option maxHeartbeats 2000000 in
theorem Be{n:Nat}(ho:On0 D n)(hn:8+files<=n/\n<=4096)(hf:1<=files/\files<=256)(dk:Dk D k)(hm:k<=4294900000)(hv:VOk V D)(hkeep:SlE (SL.one vi) V.kv D.keep∈R)
 (hk: ∀V',VOk V' (cF D (jw n files)).1->V'.kv=V.kv->POST (.int .i64 0) R (dO d V' (cF D (jw n files)).1 O)):Fun Tryz.prog 6 #[dp d,.int .i64 (files:Int)] R (dO d V D O) POST:=by
 refine bp ?_
 have hlen:=ho.len
 obtain⟨dk1,_,hkp1⟩:=vH (x:=jw n files) dk
 rw[s9] at dk1
 refine aC (l:=[_,_]) Tryz.func6 rfl Tryz.ntmps6 rfl (L0:=[(0,_),(1,_)]) rfl ?_
 refine aD<|ar rfl<|aw<|bd<|af rfl<|ab rfl (j3 rfl Tryz.underlying25 rfl rfl) ?_
 refine aU 9 (u:=.bool (decide False)) rfl (by simp) ?_
 refine af rfl<|WL.case 10 rfl (λhg10=>?_) (λhg10=>?_)
 ·
  exact hg10.elim
 ·
  refine aT rfl (al rfl rfl)<|aT rfl (Rd.lss rfl rfl rfl)<|ab rfl (aQ rfl rfl rfl)<|af rfl<|WL.case 14 rfl (λhg14=>?_) (λhg14=>?_)
  ·
   omega
  ·
   refine aT rfl (al rfl rfl)<|aT rfl (Rd.gtr rfl rfl rfl)<|ab rfl (aQ rfl rfl rfl)<|af rfl<|WL.case 18 rfl (λhg18=>?_) (λhg18=>?_)
   ·
    omega
   ·
    refine aT rfl (al rfl rfl)<|WL.c4 rfl rfl rfl rfl<|aj rfl rfl aZ an rfl rfl rfl ?_
    refine fY ?_
    refine aT rfl (al rfl rfl)<|WL.c4 rfl rfl rfl rfl<|aj rfl rfl aZ an rfl rfl rfl ?_
    refine k8 ao ?_
    refine aT rfl (Rd.add rfl rfl rfl ao) ?_
    refine aT rfl (Rd.lss rfl rfl rfl)<|ab rfl (aQ rfl rfl rfl)<|aw<|aE rfl (λhc1=>?_) (λhc1=>?_)
    ·
     omega
    ·
     refine ay<|aa<|bd<|af rfl<|ab rfl (Rd.add rfl rfl rfl ao) ?_
     refine ab rfl (Rd.add rfl rfl rfl ao) ?_
     refine af rfl<|aw<|WC.block ?_
     refine WC.pick [29,0,1,28] eS ?_
     refine WC.rR 1 (λ(j:Nat) (t:DSt) (U:DV)=>[(29,.int .i64 (j:Int))]) (λ(j:Nat) (t:DSt) (U:DV)=>dO d U t O) (λ(j:Nat) (t:DSt) (U:DV)=>j<=files+3/\Dk t (k+j)/\On0 t n/\VOk U t/\U.kv=V.kv/\t.keep=D.keep/\eY D (jw n files)=eY t ((jw n files).drop j)) (λ(j:Nat) (t:DSt) (U:DV)=>files+3-j) (0) (D) (V) iw ?hinv1 cC (λ_ h=>h) ?_
     case hinv1=>
      exact⟨Nat.zero_le _,dk,ho,hv,rfl,rfl,rfl⟩
     intro j t U
     rintro⟨j1,dkt,hon,hu,hkv,hkp,hrun⟩
     refine aD<|ab rfl (Rd.lss rfl rfl rfl)<|aw ?_
     refine aF<|aE rfl (λhc2=>?_) (λhc2=>?_)
     ·
      have hat:=hrun
      rw[zD ao,eY] at hat
      have htl:=hon.len
      obtain⟨hp0,hp1⟩:=hon.put (i:=(j:Int)) (d:=if j=0 then gD n files else []) ao (by split;rw[uf];exact Nat.le_refl _;exact Nat.zero_le _)
      rw[show(fmtC n files j).1=(j:Int) from rfl,show(fmtC n files j).2=if j=0 then gD n files else [] from rfl,hp0,if_neg (λh=>h rfl)] at hat
      refine ay<|aa<|aF<|WC.block ?_
      refine aD<|af rfl<|ar rfl<|a7<|ar rfl<|aw<|bd<|af rfl<|ab rfl (Rd.eql rfl rfl rfl)<|aw ?_
      refine aE rfl (λhc3=>?_) (λhc3=>?_)
      ·
       refine aB<|af rfl<|aq rfl<|aj rfl rfl aZ an rfl rfl rfl ?_
       refine fY ?_
       refine af rfl<|aq rfl<|aj rfl rfl aZ an rfl rfl rfl ?_
       refine wx (n:=t.aJ.length) (files:=files) ao ao ?_
       refine ar rfl<|a7<|af rfl<|af rfl<|af rfl<|aq rfl<|aj rfl rfl aZ an rfl rfl rfl ?_
       have hj0:j=0:=by omega
       rw[if_pos hj0] at hp0 hp1 hat
       rw[htl]
       refine iW dkt.ok ao hu (by rw[hkv,hkp];exact hkeep) ?_;intro U1 hu1 hku1
       rw[hp0]
       refine ar rfl<|a7<|af rfl<|ab rfl (Rd.neq rfl rfl rfl)<|aw<|aE rfl (λhc4=>?_) (λhc4=>?_)
       ·
        exact absurd rfl hc4
       ·
        refine ay<|aA<|aa<|aB<|ab rfl (Rd.add rfl rfl rfl ao) ?_
        exact af rfl<|aG<|dN.mk (j+1) _ U1 ⟨by omega,(dkt.put _ _).mono ao,hp1,hu1,hku1.trans hkv,(hZ _ _ _).trans hkp,hat⟩ ao cC bN
      ·
       refine ay<|aa<|aD<|af rfl<|af rfl<|af rfl ?_
       refine aq rfl<|aj rfl rfl aZ an rfl rfl rfl ?_
       have hj0: ¬j=0:=by omega
       rw[if_neg hj0] at hp0 hp1 hat
       refine iW dkt.ok ao hu (by rw[hkv,hkp];exact hkeep) ?_;intro U1 hu1 hku1
       rw[hp0]
       refine ar rfl<|a7<|af rfl<|ab rfl (Rd.neq rfl rfl rfl)<|aw<|aE rfl (λhc4=>?_) (λhc4=>?_)
       ·
        exact absurd rfl hc4
       ·
        refine ay<|aA<|aa<|aB<|ab rfl (Rd.add rfl rfl rfl ao) ?_
        exact af rfl<|aG<|dN.mk (j+1) _ U1 ⟨by omega,(dkt.put _ _).mono ao,hp1,hu1,hku1.trans hkv,(hZ _ _ _).trans hkp,hat⟩ ao cC bN
     ·
      obtain rfl:j=files+3:=by omega
      have hr0:eY D (jw n files)=(t,0):=by rw[hrun,List.drop_eq_nil_of_le (by rw[s9];omega)];rfl
      have hfin:cF D (jw n files)=(ek t,0):=by
       unfold cF cJ;rw[hr0,if_neg (λh=>h rfl)]
       show(ek t,eN t)=_
       rw[hon.sync]
      rw[hfin] at hk
      refine WC.exit<|au.exit<|dN.exit<|aH.exit<|aa<|aD<|af rfl ?_
      refine aq rfl<|aj rfl rfl aZ an rfl rfl rfl ?_
      refine lK dkt.ok ao hu (by rw[hkv,hkp];exact hkeep) ?_;intro U1 hu1 hku1
      rw[hon.sync]
      refine ar rfl<|aw<|WC.ret (Ret.one Tryz.results6 rfl ?_)
      exact⟨_,_,hk U1 hu1 (hku1.trans hkv),bN⟩
end
end Go.Proofs.YtebpkhlifcffnaaGreatDoor.Fs
namespace Go.Proofs.YtebpkhlifcffnaaGreatDoor.Fs
open Go Go.SL
structure Lrn(files un i:Nat)(F:FS)(m:aO Tx MI)(kn:Nat->Bool):Prop where
 yes: ∀b q,m.get b=some q->F b=some (miI q)/\q.1<i
 all: ∀b y,F b=some y->y.e<i-> ∃q,m.get b=some q/\miI q=y
 kn: ∀u,kn u=true↔ ∃b y,F b=some y/\y.e<i/\InX y.x u
theorem Lrn.start(files un:Nat)(F:FS):Lrn files un 0 F aO.empty jQ:=
 ⟨λb q h=>by simp at h,λb y _ h=>absurd h (Nat.not_lt_zero _),λu=>⟨λh=>(by cases h),λ⟨_,_,_,h,_⟩=>absurd h (Nat.not_lt_zero _)⟩⟩
section
variable{files un i:Nat}{F:FS}{m:aO Tx MI}{kn sp:Nat->Bool}
theorem Lrn.skip(h:Lrn files un i F m kn)(hn: ∀b y,F b=some y->y.e≠i):Lrn files un (i+1) F m kn:=
 ⟨λb q hb=>⟨(h.yes b q hb).1,by have:=(h.yes b q hb).2;omega⟩,λb y hy hi=>h.all b y hy (by have:=hn b y hy;omega),λu=>(h.kn u).trans ⟨λ⟨b,y,h1,h2,h3⟩=>⟨b,y,h1,by omega,h3⟩,λ⟨b,y,h1,h2,h3⟩=>⟨b,y,h1,by have:=hn b y h1;omega,h3⟩⟩⟩
theorem Lrn.none(h:Lrn files un i F m kn){b:Tx}{y:Ino}(hy:F b=some y)(he:y.e=i):m.get b=none:=by
 cases hg:m.get b with
 |none=>rfl
 |some q=>
  obtain⟨h1,h2⟩:=h.yes b q hg
  rw[hy] at h1
  cases h1
  have:q.1=i:=he
  omega
theorem Lrn.ok(h:Lrn files un i F m kn)(hf:FOk un files F sp){b:Tx}{y:Ino}(hy:F b=some y)(he:y.e=i):bU un true kn y.x:=
 (hf.tk b y hy).flip λu hu=>by
   cases hk:kn u with
   |false=>rfl
   |true=>
    obtain⟨b2,y2,h1,h2,h3⟩:=(h.kn u).1 hk
    have:=hf.dis b2 b y2 y u h1 hy h3 hu
    subst this
    rw[hy] at h1;cases h1
    omega
theorem Lrn.step(h:Lrn files un i F m kn)(hf:FOk un files F sp){b:Tx}{y:Ino}{v:Value}(hy:F b=some y)(he:y.e=i):Lrn files un (i+1) F (m.set b (i,y.n,v,y.x)) (bP true kn y.x) where
 yes:=λc q hc=>by
  rw[aO.gK] at hc
  by_cases e:c=b
  ·rw[if_pos e] at hc;cases hc;subst e
   refine⟨?_,by show i<i+1;omega⟩
   rw[hy];subst he;rfl
  ·rw[if_neg e] at hc
   exact⟨(h.yes c q hc).1,by have:=(h.yes c q hc).2;omega⟩
 all:=λc z hz hi=>by
  rw[aO.gK]
  by_cases e:c=b
  ·subst e
   rw[hy] at hz;cases hz
   exact⟨_,if_pos rfl,by subst he;rfl⟩
  ·rw[if_neg e]
   refine h.all c z hz ?_
   have:z.e≠i:=λe2=>e (hf.inj c b z y hz hy ao)
   omega
 kn:=λu=>by
  rw[p3]
  constructor
  ·rintro(hu|hu)
   ·exact⟨b,y,hy,by omega,hu⟩
   ·obtain⟨c,z,h1,h2,h3⟩:=(h.kn u).1 hu
    exact⟨c,z,h1,by omega,h3⟩
  ·rintro⟨c,z,h1,h2,h3⟩
   by_cases e:c=b
   ·subst e;rw[hy] at h1;cases h1;exact .inl h3
   ·refine .inr ((h.kn u).2 ⟨c,z,h1,?_,h3⟩)
    have:z.e≠i:=λe2=>e (hf.inj c b z y h1 hy ao)
    omega
theorem Lrn.done(h:Lrn files un files F m kn)(hf:FOk un files F sp):eB m=F/\kn=sp:=by
 refine⟨?_,?_⟩
 ·funext b
  cases hb:F b with
  |some y=>
   obtain⟨q,h1,h2⟩:=h.all b y hb (hf.ok b y hb).e
   unfold eB;rw[h1,←h2];rfl
  |none=>
   unfold eB
   cases hg:m.get b with
   |none=>rfl
   |some q=>rw[(h.yes b q hg).1] at hb;cases hb
 ·funext u
  rw[Bool.eq_iff_iff,h.kn,hf.iff]
  exact⟨λ⟨b,y,h1,_,h3⟩=>⟨b,y,h1,h3⟩,λ⟨b,y,h1,h3⟩=>⟨b,y,h1,(hf.ok b y h1).e,h3⟩⟩
end
section
variable{R:List RO}{O:List Own}{POST:Value->List RO->List Own->Prop}{s d l mb un files k:Nat}{sp:Nat->Bool}{V:DV}{D:DSt}
theorem uU: ∀w,allM (aO.empty:aO Tx MI) w:=λw b q h=>by simp at h
set_option maxRecDepth 20000 in
set_option maxHeartbeats 8000000 in
theorem BT{n:Nat}{F:FS}(ht:ea∈R)(hi:Mnt n files F sp D)(hun:un=n-(7+files))(hn:7+files<n/\n<=4096)(hfs:files<=256)(dk:Dk D k)(hm:k<=4294900000)
 (hk: ∀m,eB m=F->POST (.int .i64 0) (allM m::R) (stO s d l mb un files sp false m V D O)):
 Fun Tryz.prog 26 #[dp s] R (dO d V D (az s 77 (Ib d l mb 0 files jQ false)::fl vs miV mb (aO.empty:aO Tx MI)::O)) POST:=by
 refine bp ?_
 have hlen:=hi.inv.len
 have hra: ∀i,i<n->cD D (i:Int)=(D.aJ[i]!,0):=λi h=>lf hi.cl.off hi.cl.since ao
 have hb1:D.aJ[1]! =bF (spB un sp):=by rw[hun];exact iG hi.inv.bits
 have hbl:=fU un sp
 have hbl5:(spB un sp).length<=512:=by rw[hbl];omega
 have hbt:(bF (spB un sp)).take ((un+7)/8)=spB un sp:=by
  unfold bF;rw[List.take_append_of_le_length ao,List.take_of_length_le ao]
 have hfull:=fH hbl5
 have hout: ∀i,un<=i->sp i=false:=λi h=>hi.inv.fok.out i ao
 have hfok:FOk un files F sp:=by rw[hun];exact hi.inv.fok
 refine aC (l:=[_]) Tryz.func26 rfl Tryz.ntmps26 rfl (L0:=[(0,_)]) rfl ?_
 refine aD<|ar rfl<|aw ?_
 refine WC.cut (α:=Unit) (λ_=>[(0,dp s),(3,.int .i64 (un:Int))]) (λ_=>R) (λ_=>dO d V D (az s 77 (Ib d l mb 0 files jQ false)::fl vs miV mb (aO.empty:aO Tx MI)::O)) (λ_=>True) ?_ ?_
 ·
  refine WC.drawn (az s 77 (Ib d l mb 0 files jQ false)::O) 12 rfl mixed ?_
  refine ae 0 rfl an aN rfl rfl rfl (al rfl rfl) ?_
  refine ae 1 rfl an aN rfl rfl rfl (aL rfl rfl) ?_
  refine ae 2 rfl an aN rfl rfl rfl ((by exact ak rfl sn rfl rfl)) ?_
  refine ae 3 rfl an aN rfl rfl rfl (ax (off:=0) (u:=dp d) rfl C25 rfl (b:=s) aK rfl) ?_
  refine ae 5 rfl an aN rfl rfl rfl (al rfl rfl) ?_
  refine ae 6 rfl an aN rfl rfl rfl (aL rfl rfl) ?_
  refine ae 7 rfl an aN rfl rfl rfl ((by exact ak rfl DE rfl rfl)) ?_
  refine ae 8 rfl an aN rfl rfl rfl (ax (off:=5) (u:=.int .i64 (files:Int)) rfl C3 rfl (b:=s) aK rfl) ?_
  refine aS 4 rfl an rfl ?_
  refine aj rfl rfl aZ an rfl rfl rfl ?_
  refine fY ?_
  refine⟨aN,?_⟩
  refine aS 9 rfl an rfl ?_
  refine aj rfl rfl aZ an rfl rfl rfl ?_
  refine k8 ao ?_
  refine⟨aN,?_⟩
  refine ae 10 rfl an aN rfl rfl rfl (Rd.sub rfl rfl rfl ao) ?_
  refine WD.say 28 (u:=.int .i64 (un:Int)) rfl (by rw[hlen,hun];congr 1;omega) ?_
  refine ae 11 rfl an aN rfl rfl rfl (Rd.assign rfl rfl) ?_
  refine WD.done an ?_
  exact⟨(),trivial,cC,bN⟩
 ·
  rintro⟨⟩ -
  refine aD<|af rfl<|ab rfl (aL rfl rfl)<|ab rfl (by exact ak rfl sn rfl rfl) ?_
  refine ab rfl (ax (off:=0) (u:=dp d) rfl C25 rfl (b:=s) aK rfl) ?_
  refine aq rfl<|aj rfl rfl aZ an rfl rfl rfl ?_
  refine iY (dk.ok.mono ao) ?_
  rw[show(1:Int)=((1:Nat):Int) from rfl,hra 1 ao,hb1]
  dsimp only
  refine af rfl<|bH rfl<|bH rfl<|ar rfl<|ar rfl<|aw<|bd<|af rfl<|ab rfl (Rd.neq rfl rfl rfl)<|aw<|aE rfl (λhc1=>?_) (λhc1=>?_)
  ·
   exact absurd rfl hc1
  ·
   refine ay<|aa<|aD<|af rfl<|ab rfl (Rd.add rfl rfl rfl ao) ?_
   refine ab rfl (mO (a:=un+7) (b:=8) rfl rfl rfl ao rfl ao ao) ?_
   refine ar rfl<|a7<|ar rfl<|aw<|bd<|af rfl<|af rfl<|af rfl<|af rfl<|ab rfl (gi (hi:=(un+7)/8) rfl Tryz.underlying9 rfl rfl rfl ao) ?_
   refine aU 48 (u:=vs (spB un sp)) rfl (by rw[hbt]) ?_
   refine aq rfl<|aj rfl rfl aZ an rfl rfl rfl ?_
   refine yA (n:=un) (f:=sp) ao hout ?_
   refine af rfl<|bH rfl<|bH rfl<|ab rfl (aL rfl rfl)<|ab rfl (by exact ak rfl xJ rfl rfl) ?_
   refine aq rfl<|aM rfl G75 rfl rfl ba bh rfl rfl ba rfl ?_
   refine ar rfl<|a7<|af rfl<|ab rfl (Rd.neq rfl rfl rfl)<|af rfl<|WL.case 56 rfl (λhg56=>?_) (λhg56=>?_)
   ·
    exact absurd rfl hg56
   ·
    refine aT rfl (al rfl rfl)<|aT rfl (al rfl rfl)<|aT rfl (al rfl rfl)<|aT rfl (gi (hi:=(un+7)/8) rfl Tryz.underlying9 rfl rfl rfl ao) ?_
    refine aU 60 (u:=vs (spB un sp)) rfl (by rw[hbt]) ?_
    refine WL.c4 rfl rfl rfl rfl<|aj rfl rfl aZ an rfl rfl rfl ?_
    refine kX hbl5 ?_
    refine aT rfl (fA rfl rfl rfl)<|ab rfl (aQ rfl rfl rfl)<|aw<|aE rfl (λhc2=>?_) (λhc2=>?_)
    ·
     (exfalso;exact hc2 rfl)
    ·
     refine ay<|aa<|aD<|af rfl ?_
     refine aq rfl<|aj rfl rfl aZ an rfl rfl rfl ?_
     refine u9 (n:=un) ao ?_
     refine af rfl<|bH rfl<|bH rfl<|aq rfl<|OpW.alloc rfl I75 rfl ba rfl rfl ?_;intro b8
     refine aq rfl<|aM rfl G75 rfl rfl ba bh rfl rfl ba rfl ?_
     refine ar rfl<|aw<|bd<|af rfl<|ab rfl (aL rfl rfl)<|ab rfl (by exact ak rfl DE rfl rfl) ?_
     refine ab rfl (ax (off:=5) (u:=.int .i64 (files:Int)) rfl C3 rfl (b:=s) aK rfl) ?_
     refine af rfl<|aw<|WC.block ?_
     refine WC.pick [73,0,8,72] eS ?_
     refine xP 1 (λ(i:Nat) (m:aO Tx MI) (kn:Nat->Bool)=>[(73,.int .i64 (i:Int))]) (λ(i:Nat) (m:aO Tx MI) (kn:Nat->Bool)=>allM m::R) (λ(i:Nat) (m:aO Tx MI) (kn:Nat->Bool)=>stO s d l mb un files sp false m V D (az b8 75 (dD un kn)::O)) (λ(i:Nat) (m:aO Tx MI) (kn:Nat->Bool)=>i<=files/\Lrn files un i F m kn) (λ(i:Nat) (m:aO Tx MI) (kn:Nat->Bool)=>files-i) (0) (aO.empty) (jQ) iw ?hinv1 cC (λw h=>by
     have h2:=h.derive (q:=allM (aO.empty:aO Tx MI)) (λw _=>uU w)
     exact dj h2) ?_
     case hinv1=>
      exact⟨Nat.zero_le _,Lrn.start _ _ _⟩
     intro i m kn
     rintro⟨i1,i2⟩
     refine aF<|WC.heap (λw h=>h.derive (q:=allM (aO.empty:aO Tx MI)) (λw _=>uU w)) ?_
     refine aB<|ab rfl (Rd.lss rfl rfl rfl)<|aw<|aF<|aE rfl (λhc3=>?_) (λhc3=>?_)
     ·
      have hri:=hra (2+i) ao
      have hent:=hi.inv.ent i ao
      refine ay<|aa<|aF<|WC.block ?_
      refine aD<|af rfl<|ar rfl<|a7<|af rfl<|ab rfl (aL rfl rfl)<|ab rfl (by exact ak rfl sn rfl rfl) ?_
      refine ab rfl (ax (off:=0) (u:=dp d) rfl C25 rfl (b:=s) aK rfl) ?_
      refine af rfl<|ab rfl (Rd.add rfl rfl rfl ao) ?_
      refine aU 82 (u:=.int .i64 ((2+i:Nat):Int)) rfl (by congr 1) ?_
      refine aq rfl<|aj rfl rfl aZ an rfl rfl rfl ?_
      refine Fun.heap (R':=allM m::R) (O':=dO d V D (oY s d l mb un files sp false::fl vs miV mb m::az b8 75 (dD un kn)::O)) bN ?_
      refine iY (dk.ok.mono ao) ?_
      rw[hri]
      dsimp only
      refine af rfl<|bH rfl<|bH rfl<|ar rfl<|ar rfl<|aw<|bd<|af rfl<|ab rfl (Rd.neq rfl rfl rfl)<|aw<|aE rfl (λhc4=>?_) (λhc4=>?_)
      ·
       exact absurd rfl hc4
      ·
       refine ay<|aa<|bd<|af rfl ?_
       refine aq rfl<|aj rfl rfl aZ an rfl rfl rfl ?_
       refine kX (s:=[]) (Nat.zero_le _) ?_
       refine ab rfl (lq rfl rfl rfl)<|aw<|aE rfl (λhc5=>?_) (λhc5=>?_)
       ·
        have hzz:D.aJ[2+i]! =gG:=hc5
        have hno: ∀b y,F b=some y->y.e≠i:=by
         rcases hent with⟨b,y,h1,h2,h3⟩|⟨h1,_⟩
         ·exact absurd ((iG h3).symm.trans hzz) (Ii (hfok.ok b y h1))
         ·exact h1
        refine WC.exit<|au.exit<|aH.exit<|aa<|aB<|ab rfl (Rd.add rfl rfl rfl ao) ?_
        exact af rfl<|aG<|dN.mk (i+1) m kn ⟨by omega,i2.skip hno⟩ ao cC bN
       ·
        obtain⟨b,y,hby,hye,hle⟩: ∃b y,F b=some y/\y.e=i/\D.aJ[2+i]! =bW b y:=by
         rcases hent with⟨b,y,h1,h2,h3⟩|⟨_,h2⟩
         ·exact⟨b,y,h1,h2,iG h3⟩
         ·exact absurd (iG h2) (λh=>hc5 (by rw[h];rfl))
        rw[hle]
        have hyo:=hfok.ok b y hby
        have hyl:=hyo.len
        have hnb:=i2.none hby hye
        have htk:=i2.ok hfok hby hye
        refine ay<|aa<|aD<|af rfl ?_
        refine aq rfl<|aj rfl rfl aZ an rfl rfl rfl ?_
        refine Ck (files:=files) (name:=b) (i:=y) (by repeat(first|exact ht|refine List.mem_cons_of_mem _ ?_)) hyo ?_;intro v hvo
        refine af rfl<|bH rfl<|bH rfl<|bH rfl<|aq rfl<|OpW.alloc rfl lA rfl ba rfl rfl ?_;intro b14
        refine ar rfl<|aq rfl<|aM (h1:=by simp only[List.all_cons,List.all_nil,hvo.one];rfl) rfl iM rfl rfl ba bh rfl rfl ba rfl ?_
        refine ar rfl<|aw<|bd<|af rfl<|ab rfl (aL rfl rfl)<|ab rfl (by exact ak rfl ua rfl rfl) ?_
        refine ab rfl (ax (off:=4) (u:=.map (some mb)) rfl C72 rfl (b:=s) aK rfl) ?_
        refine af rfl<|ab rfl (pH (kenc:=vs) (venc:=miV) (m:=m) (k:=b) M72 K9 rfl rfl rfl aK rfl) ?_
        refine aU 104 (u:=.tuple #[Gy 0 0 (.slice none 0 0),.bool (decide False)]) rfl (by rw[hnb];rfl) ?_
        refine af rfl<|bH rfl<|bH rfl<|aq rfl<|OpW.alloc rfl lA rfl ba rfl rfl ?_;intro b16
        refine aq rfl<|aM rfl iM rfl rfl ba bh rfl rfl ba rfl ?_
        refine ar rfl<|a7<|af rfl<|ab rfl (by exact Rd.not rfl rfl) ?_
        refine aU 108 (u:=.bool (decide False)) rfl rfl ?_
        refine af rfl<|WL.case 109 rfl (λhg109=>?_) (λhg109=>?_)
        ·
         exact hg109.elim
        ·
         refine aT rfl (al rfl rfl)<|ab rfl (aQ rfl rfl rfl)<|aw<|aE rfl (λhc6=>?_) (λhc6=>?_)
         ·
          exact hc6.elim
         ·
          refine ay<|aa<|aD<|af rfl<|ab rfl (by exact ak rfl rD rfl rfl) ?_
          refine aq rfl<|aV rfl Z3 rfl rfl (by exact⟨rfl,rfl⟩) bh (by(simp;done)) rfl ?_
          refine aw<|bd<|ab rfl (by exact bj rfl G75 rfl aK ba rfl) ?_
          refine ab rfl (by exact ak rfl fm rfl rfl) ?_
          refine ab rfl (by exact ax rfl kW rfl aK (by rfl)) ?_
          refine aq rfl<|aj rfl rfl aZ an rfl rfl rfl ?_
          refine my (n:=un) (f:=kn) (xs:=y.x) aK ao htk ao ?_
          refine af rfl<|bH rfl<|bH rfl<|aq rfl<|aM rfl G75 rfl rfl ba bh rfl rfl ba rfl ?_
          refine ar rfl<|a7<|af rfl<|ab rfl (Rd.neq rfl rfl rfl)<|aw<|aE rfl (λhc7=>?_) (λhc7=>?_)
          ·
           exact absurd rfl hc7
          ·
           refine ay<|aa<|WC.tail 6 mixed an ?_
           refine bn rfl (al rfl rfl)<|bn rfl (aL rfl rfl)<|bn rfl (by exact ak rfl ua rfl rfl) ?_
           refine bn rfl (ax (off:=4) (u:=.map (some mb)) rfl C72 rfl (b:=s) aK rfl) ?_
           refine bn rfl (al rfl rfl)<|bn rfl (by exact bj rfl iM rfl aK ba rfl) ?_
           refine dm<|aq rfl<|OpW.mapUpdate (kenc:=vs) (venc:=miV) (m:=m) (k:=b) (v:=(i,y.n,v,y.x)) M72 K9 rfl rfl rfl rfl bh rfl rfl rfl ?_
           refine aG<|aA<|aa<|aB<|ab rfl (Rd.add rfl rfl rfl ao) ?_
           exact af rfl<|aG<|dN.mk (i+1) (m.set b (i,y.n,v,y.x)) (bP true kn y.x) ⟨by omega,i2.step hfok hby hye⟩ ao cC (λw h=>by
           have h2:Sat (allM (m.set b (i,y.n,v,y.x))::R) _ w:=((h.thin (R':=SlE cW v y.x::allM m::R) (cB.mem cz)).derive (q:=allM (m.set b (i,y.n,v,y.x))) (λw hw=>tC (hw _ (List.mem_cons_of_mem _ List.mem_cons_self)) (hw _ List.mem_cons_self))).thin (by intro p hp;rcases List.mem_cons.1 hp with rfl|hp;exact List.mem_cons_self;exact List.mem_cons_of_mem _ (List.mem_cons_of_mem _ (List.mem_cons_of_mem _ hp)))
           exact dj h2)
     ·
      obtain rfl:i=files:=by omega
      obtain⟨hFm,hkn⟩:=i2.done hfok
      rw[hkn]
      refine WC.exit<|au.exit<|dN.exit<|aH.exit<|aa<|aF<|aF<|WC.still mixed an ?_
      refine dP rfl (by exact bj rfl G75 rfl aK ba rfl) ?_
      refine dP rfl (al rfl rfl)<|dP rfl (aL rfl rfl)<|dP rfl (by exact ak rfl xJ rfl rfl) ?_
      refine dP rfl (bj (b:=s) rfl G75 rfl aK ba rfl) ?_
      refine dP rfl (Fm rfl rfl rfl (E75 ..))<|WA.nil<|aa<|aE rfl (λhc8=>?_) (λhc8=>?_)
      ·
       exact(hc8 ⟨rfl,rfl⟩).elim
      ·
       refine ay<|aa<|aD<|ar rfl<|aw ?_
       refine WC.ret (Ret.one Tryz.results26 rfl ?_)
       exact⟨_,_,hk m hFm,bN⟩
end
end Go.Proofs.YtebpkhlifcffnaaGreatDoor.Fs
namespace Go.Proofs.YtebpkhlifcffnaaGreatDoor.Fs
open Go Go.SL
theorem GU{n files:Nat}(hf:files<65536):(gD n files)[4]? =some (byteOf (files/256))/\(gD n files)[5]? =some (byteOf files)/\(byteOf (files/256)).toNat*2^8 ||| (byteOf files).toNat=files:=by
 refine⟨rfl,rfl,?_⟩
 rw[Jq]
 unfold byteOf
 rw[UInt8.toNat_ofNat',UInt8.toNat_ofNat']
 omega
section
variable{R:List RO}{O:List Own}{POST:Value->List RO->List Own->Prop}{d files k:Nat}{sp:Nat->Bool}{V:DV}{D:DSt}
set_option maxRecDepth 20000 in
set_option maxHeartbeats 8000000 in
theorem uu{n:Nat}{F:FS}(ht:ea∈R)(hhd:cD D 0=(gD n files,0))(hlen:D.aJ.length=n)(hoe:(cE D ((2+files:Nat):Int) 5).2.2=0)(hi:Mnt n files F sp (cE D ((2+files:Nat):Int) 5).1)(hn:7+files<n/\n<=4096)(hfs:1<=files/\files<=256)(dk:Dk D k)(hm:k<=4294800000)(hv:VOk V D)(hkeep:SlE (SL.one vi) V.kv D.keep∈R)
 (hk: ∀V' s l mb m,eB m=F->VOk V' (cE D ((2+files:Nat):Int) 5).1->V'.kv=V.kv->POST (.tuple #[dp s,.int .i64 0]) (allM m::gP l d ((2+files:Nat):Int) 5::R) (stO s d l mb (n-(7+files)) files sp false m V' (cE D ((2+files:Nat):Int) 5).1 O)):
 Fun Tryz.prog 7 #[dp d] R (dO d V D O) POST:=by
 refine bp ?_
 obtain⟨hd4,hd5,hd6⟩:=GU (n:=n) (files:=files) ao
 have hdk1:=(yb dk ((2+files:Nat):Int) 5).1
 obtain⟨E,hE⟩: ∃E,E=cE D ((2+files:Nat):Int) 5:=⟨_,rfl⟩
 rw[←hE] at hoe hi hk hdk1
 refine aC (l:=[_]) Tryz.func7 rfl Tryz.ntmps7 rfl (L0:=[(0,_)]) rfl ?_
 refine aD<|ar rfl<|ar rfl<|aw<|bd<|af rfl<|ab rfl (j3 rfl Tryz.underlying25 rfl rfl) ?_
 refine aU 10 (u:=.bool (decide False)) rfl (by simp) ?_
 refine aw<|aE rfl (λhc1=>?_) (λhc1=>?_)
 ·
  exact hc1.elim
 ·
  refine ay<|aa<|aD<|af rfl ?_
  refine aq rfl<|aj rfl rfl aZ an rfl rfl rfl ?_
  refine iY (dk.ok.mono ao) ?_
  rw[hhd]
  dsimp only
  refine af rfl<|bH rfl<|bH rfl<|ar rfl<|ar rfl<|aw<|bd<|af rfl<|ab rfl (Rd.neq rfl rfl rfl)<|aw<|aE rfl (λhc2=>?_) (λhc2=>?_)
  ·
   exact absurd rfl hc2
  ·
   refine ay<|aa<|aF<|WC.still mixed an ?_
   refine dP rfl (al rfl rfl)<|dP rfl (fb (k:=4) (b:=byteOf (files/256)) rfl Tryz.underlying9 rfl rfl rfl hd4) ?_
   refine dP rfl (ck (kd':=.i64) (p:=((byteOf (files/256)).toNat:Int)) rfl rfl Tryz.underlying3 (wrap_i64 (by have:=UInt8.toNat_lt (byteOf (files/256));omega)) (hS:=Tryz.underlying5)) ?_
   refine dP rfl (tf (a:=(byteOf (files/256)).toNat) (n:=8) rfl rfl rfl rfl rfl ao (by have:=UInt8.toNat_lt (byteOf (files/256));omega)) ?_
   refine dP rfl (al rfl rfl)<|dP rfl (fb (k:=5) (b:=byteOf files) rfl Tryz.underlying9 rfl rfl rfl hd5) ?_
   refine dP rfl (ck (kd':=.i64) (p:=((byteOf files).toNat:Int)) rfl rfl Tryz.underlying3 (wrap_i64 (by have:=UInt8.toNat_lt (byteOf files);omega)) (hS:=Tryz.underlying5)) ?_
   refine dP rfl (Dp (a:=(byteOf (files/256)).toNat*2^8) (b:=(byteOf files).toNat) rfl rfl rfl rfl rfl (by have:=UInt8.toNat_lt (byteOf (files/256));show _<2^63;omega) (by have:=UInt8.toNat_lt (byteOf files);show _<2^63;omega)) ?_
   refine WA.say 26 (u:=.int .i64 (files:Int)) rfl (by rw[hd6]) ?_
   refine dP rfl (Rd.assign rfl rfl)<|WA.nil<|aa<|bd<|af rfl<|ab rfl (Rd.lss rfl rfl rfl)<|af rfl ?_
   refine WL.case 29 rfl (λhg29=>?_) (λhg29=>?_)
   ·
    omega
   ·
    refine aT rfl (al rfl rfl)<|aT rfl (Rd.gtr rfl rfl rfl)<|ab rfl (aQ rfl rfl rfl)<|af rfl<|WL.case 33 rfl (λhg33=>?_) (λhg33=>?_)
    ·
     omega
    ·
     refine aT rfl (al rfl rfl)<|WL.c4 rfl rfl rfl rfl<|aj rfl rfl aZ an rfl rfl rfl ?_
     refine fY ?_
     refine aT rfl (al rfl rfl)<|WL.c4 rfl rfl rfl rfl<|aj rfl rfl aZ an rfl rfl rfl ?_
     refine k8 ao ?_
     refine aT rfl (Rd.add rfl rfl rfl ao) ?_
     refine aT rfl (Rd.lss rfl rfl rfl)<|ab rfl (aQ rfl rfl rfl)<|af rfl<|WL.case 41 rfl (λhg41=>?_) (λhg41=>?_)
     ·
      omega
     ·
      refine aT rfl (al rfl rfl)<|aT rfl (al rfl rfl)<|WL.c4 rfl rfl rfl rfl<|aj rfl rfl aZ an rfl rfl rfl ?_
      refine fY ?_
      refine aT rfl (al rfl rfl)<|WL.c4 rfl rfl rfl rfl<|aj rfl rfl aZ an rfl rfl rfl ?_
      rw[hlen]
      refine wx ao ao ?_
      refine aT rfl (fA rfl rfl rfl)<|ab rfl (aQ rfl rfl rfl)<|aw<|aE rfl (λhc3=>?_) (λhc3=>?_)
      ·
       (exfalso;exact hc3 rfl)
      ·
       refine ay<|aa<|aD<|af rfl ?_
       refine aq rfl<|OpW.makeMap vs miV rfl rfl rfl ?_;intro b50
       refine af rfl<|ab rfl (bO (ps:=[(0,_),(3,_),(4,_)]) rfl SD I77 rfl aZ fy (by apply NFo.mk;repeat(first|exact NF.nil|apply NF.cons))) ?_
       refine aq rfl<|OpW.box rfl rfl ba rfl rfl ?_;intro b53
       refine ar rfl<|aw<|bd<|af rfl<|af rfl<|af rfl<|ab rfl (Rd.add rfl rfl rfl ao) ?_
       refine aU 58 (u:=.int .i64 ((2+files:Nat):Int)) rfl (by congr 1) ?_
       refine aq rfl<|aj rfl rfl aZ an rfl rfl rfl ?_
       refine Fun.heap (R':=R) (O':=dO d V D (az b53 77 [dp d,.pointer none,.int .i64 0,vs [],.map (some b50),.int .i64 (files:Int),.bool false]::fl vs miV b50 (aO.empty:aO Tx MI)::O)) bN ?_
       refine x9 (f:=((2+files:Nat):Int)) (z:=5) ht dk ao hv hkeep ?_
       intro V' po hv' hkv' hpo
       rw[←hE] at hv' hpo⊢
       obtain⟨l,rfl⟩: ∃l,po=some l:=Option.isSome_iff_exists.1 (hpo.2 hoe)
       rw[hoe]
       have hk':=hk V'
       refine af rfl<|bH rfl<|bH rfl<|bH rfl<|ab rfl (aL rfl rfl)<|ab rfl (by exact ak rfl Nu rfl rfl) ?_
       refine aq rfl<|aV rfl Z73 rfl rfl (by exact⟨rfl,rfl⟩) bh (by(simp;done)) rfl ?_
       refine WL.heap (R':=gP l d ((2+files:Nat):Int) 5::R) (λw h=>(h.derive (q:=gP l d ((2+files:Nat):Int) 5) (λw hw=>hw _ List.mem_cons_self l rfl)).thin (by intro p hp;rcases List.mem_cons.1 hp with rfl|hp;exact List.mem_cons_self;exact List.mem_cons_of_mem _ (List.mem_cons_of_mem _ hp))) ?_
       refine ar rfl<|a7<|af rfl<|ab rfl (Rd.neq rfl rfl rfl)<|aw<|aE rfl (λhc4=>?_) (λhc4=>?_)
       ·
        exact absurd rfl hc4
       ·
        refine ay<|aa<|bd<|af rfl ?_
        refine aq rfl<|aj rfl rfl aZ an rfl rfl rfl ?_
        refine Fun.heap (R':=gP l d ((2+files:Nat):Int) 5::R) (O':=dO d V' E.1 (az b53 77 (Ib d l b50 0 files jQ false)::fl vs miV b50 (aO.empty:aO Tx MI)::O)) bN ?_
        refine BT (n:=n) (F:=F) (List.mem_cons_of_mem _ ht) hi rfl hn ao hdk1 ao ?_;intro m hm1
        refine ar rfl<|a7<|af rfl<|ab rfl (Rd.neq rfl rfl rfl)<|aw<|aE rfl (λhc5=>?_) (λhc5=>?_)
        ·
         exact absurd rfl hc5
        ·
         refine ay<|aa<|aD<|af rfl<|ar rfl<|ar rfl<|aw ?_
         refine WC.ret (Ret.two Tryz.results7 rfl rfl ?_)
         exact⟨_,_,hk' b53 l b50 m hm1 hv' hkv',bN⟩
end
end Go.Proofs.YtebpkhlifcffnaaGreatDoor.Fs
namespace Go.Proofs.YtebpkhlifcffnaaGreatDoor.Fs
open Go Go.SL
def rfs:Tx:=[114,101,102,115]
theorem qa:oU rfs:=⟨by decide,by decide,by decide⟩
def cfR(c:Option Tx):Tx->Option Tx:=λb=>if b=rfs then c else none
theorem iA(c:Option Tx):cfR c rfs=c:=if_pos rfl
theorem EU(c:Option Tx)(v:Option Tx)(b:Tx):(if b=rfs then v else cfR c b)=cfR v b:=by
 unfold cfR
 by_cases h:b=rfs<;>simp[h]
def nU:Option Tx->Nat
 |none=>0
 |some c=>bc c.length
theorem zZ(a b:Nat):bc (a+b)<=bc a+bc b/\bc a<=bc (a+b):=by unfold bc;omega
structure Stt(n files:Nat)(c:Option Tx)(F:FS)(sp:Nat->Bool)(D:DSt):Prop where
 mnt:Mnt n files F sp D
 cont: ∀b,ej D.aJ (7+files) F b=cfR c b
 cnt:fD sp (n-(7+files))+nU c=n-(7+files)
theorem Ka{n files:Nat}{F:FS}{sp:Nat->Bool}{L:List Tx}(h:gF n files F sp L){b:Tx}{x:Ino}(hx:F b=some x):(jy L (7+files) x).length=x.n:=by
 have hs:=(h.fok.ok b x hx).sum
 rw[fP,List.length_take,lM h.w (λi hi=>(jO h hx i hi).2),dC,hs]
 unfold bc
 omega
theorem Stt.has{n files:Nat}{c:Option Tx}{F:FS}{sp:Nat->Bool}{D:DSt}(h:Stt n files c F sp D){b:Tx}{x:Ino}(hx:F b=some x):cfR c b=some (jy D.aJ (7+files) x)/\(jy D.aJ (7+files) x).length=x.n:=by
 refine⟨?_,Ka h.mnt.inv hx⟩
 rw[←h.cont b];unfold ej;rw[hx];rfl
theorem Stt.no{n files:Nat}{c:Option Tx}{F:FS}{sp:Nat->Bool}{D:DSt}(h:Stt n files c F sp D){b:Tx}(hx:F b=none):cfR c b=none:=by
 rw[←h.cont b];unfold ej;rw[hx];rfl
structure Dn(n files:Nat)(c c':Option Tx)(D:DSt)(F:FS)(sp:Nat->Bool)(off:Bool)(D':DSt)(e:Nat):Prop where
 keep:D'.keep=D.keep
 res:(e=0/\off=false/\Stt n files c' F sp D'/\(D.left=0->D'.left=0))∨
  (D.left≠0/\e=7/\D'.off=true/\D'.aJ.length=n/\cD (onS D') 0=(gD n files,0)/\(cE (onS D') ((2+files:Nat):Int) 5).2.2=0/\(cE (onS D') ((2+files:Nat):Int) 5).1.left=0/\
    ∃F2 sp2,Stt n files c F2 sp2 (cE (onS D') ((2+files:Nat):Int) 5).1∨Stt n files c' F2 sp2 (cE (onS D') ((2+files:Nat):Int) 5).1)
section
variable{n files k:Nat}{F F':FS}{sp sp':Nat->Bool}{c c':Option Tx}
theorem Lo{s:DSt}{l:List Nat}{d bs:Tx}{ch:List (Nat×Tx)}(hm:Mnt n files F sp s)(dk:Dk s k)(hn:7+files<n)(hn2:n<=4096)(hbl:bs.length<=512)(hl: ∀i∈l,7+files<=i/\i<n)(hchl:ch.length<=3)(hci: ∀c∈ch,c.1<files/\c.2.length<=512):
 Dk (opS s ((2+files:Nat):Int) 5 l d bs ch).1 (k+l.length+301)/\(opS s ((2+files:Nat):Int) 5 l d bs ch).1.keep=s.keep/\(opS s ((2+files:Nat):Int) 5 l d bs ch).1.aJ.length=n/\(opS s ((2+files:Nat):Int) 5 l d bs ch).1.aJ[0]? =some (gD n files):=by
 have htame:qh (2+files) 5 n (cL bs ch):=by
  refine⟨⟨⟨by omega,by omega,by omega,hn2⟩,by unfold cL;rw[List.length_cons,List.length_map];omega⟩,λc hc=>?_⟩
  rcases List.mem_cons.1 hc with rfl|hc
  ·exact⟨.inl ⟨by show(0:Int)<=1;omega,by show(1:Int)<_;omega⟩,hbl⟩
  ·obtain⟨y,hy,rfl⟩:=List.mem_map.1 hc
   obtain⟨g1,g2⟩:=hci y hy
   exact⟨.inl ⟨by show(0:Int)<=((2+y.1:Nat):Int);omega,by show((2+y.1:Nat):Int)<_;omega⟩,g2⟩
 have hlay:Dk (lS s l d).1 (k+l.length+1)/\(lS s l d).1.keep=s.keep:=by
  unfold lS
  split
  ·exact⟨dk.mono ao,rfl⟩
  ·have:=iK (x:=bQ l d) dk;rw[kO] at this;exact⟨this.1,this.2.2⟩
 have hdk:Dk (opS s ((2+files:Nat):Int) 5 l d bs ch).1 (k+l.length+301)/\(opS s ((2+files:Nat):Int) 5 l d bs ch).1.keep=s.keep:=by
  unfold opS cJ
  split
  ·exact⟨hlay.1.mono ao,hlay.2⟩
  ·have:=xm hlay.1 (f:=((2+files:Nat):Int)) (z:=5) ao (cL bs ch)
   exact⟨this.1.mono ao,this.2.2.trans hlay.2⟩
 have o1:oO (bQ l d) 0:=df λhc=>by have:=(hl 0 hc).1;omega
 have o2:oO (cL bs ch) 0:=λc hc=>by
  rcases List.mem_cons.1 hc with rfl|hc
  ·show(1:Int).toNat≠0;decide
  ·obtain⟨y,hy,rfl⟩:=List.mem_map.1 hc
   show((2+y.1:Nat):Int).toNat≠0;omega
 have hh:=hm.inv.head
 obtain⟨_,a2⟩:=IN (d:=d) hm.cl (λi hi=>by have:=hl i hi;omega) htame
 have e5:((5:Nat):Int)=5:=rfl
 rw[e5] at a2
 refine⟨hdk.1,hdk.2,?_⟩
 have fin: ∀{T M:List Tx},StA (2+files) 5 n T M->T[0]? =some (gD n files)->M.length=n/\M[0]? =some (gD n files):=λh hT=>⟨h.len,by rw[h.out 0 (.inl ao)];exact hT⟩
 rcases a2 with⟨_,_,b3,_⟩|⟨_,_,_,b3⟩
 ·exact fin b3 (by rw[bk _ _ _ o2,bk _ _ _ o1];exact hh)
 ·rcases b3 with⟨sub,q1,q2⟩|q2
  ·exact fin q2 (by rw[bk _ _ _ (fr o1 q1)];exact hh)
  ·rcases q2 with q2|q2|q2
   ·exact fin q2 (by rw[bk _ _ _ o1];exact hh)
   ·exact fin q2 (by rw[bk _ _ _ o2,bk _ _ _ o1];exact hh)
   ·exact⟨q2.len,by rw[q2.out 0 (.inl ao) o2,bk _ _ _ o1];exact hh⟩
theorem KM{E:DSt}{files:Nat}(hlen:E.aJ.length=n)(hn:0<n)(hs:E.since=[])(h0:E.aJ[0]? =some (gD n files)):cD (onS E) 0=(gD n files,0):=by
 have:=lf (s:=onS E) rfl hs (i:=0) (by show 0<E.aJ.length;omega)
 rw[get!_of_lt ao] at h0
 rw[show((0:Nat):Int)=0 from rfl,show(onS E).aJ=E.aJ from rfl,Option.some.inj h0] at this
 exact this
theorem Dn.mk'{s:DSt}{l:List Nat}{d:Tx}{ch:List (Nat×Tx)}(hS:Stt n files c F sp s)(dk:Dk s k)(hn:7+files<n)(hn2:n<=4096)(hl: ∀i∈l,7+files<=i/\i<n)(hchl:ch.length<=3)(hci: ∀c∈ch,c.1<files/\c.2.length<=512)(hcn:fD sp' (n-(7+files))+nU c'=n-(7+files))
 (h0: ∀sub,List.Sublist sub (bQ l d)->gF n files F sp (a6 sub s.aJ)/\ ∀b,ej (a6 sub s.aJ) (7+files) F b=cfR c b)
 (h1:gF n files F' sp' (a6 (cL (spB (n-(7+files)) sp') ch) (a6 (bQ l d) s.aJ))/\ ∀b,ej (a6 (cL (spB (n-(7+files)) sp') ch) (a6 (bQ l d) s.aJ)) (7+files) F' b=cfR c' b)
 {p:DSt×Nat} (hp:p=opS s ((2+files:Nat):Int) 5 l d (spB (n-(7+files)) sp') ch):
 Dn n files c c' s (if p.2=0 then F' else F) (if p.2=0 then sp' else sp) (decide (p.2≠0)) p.1 p.2/\Dk p.1 (k+l.length+301):=by
 subst hp
 have hdp:=Kb (C:=cfR c) (C':=cfR c') hS.mnt dk hn hn2 hl hchl hci h0 h1
 obtain⟨m1,m2,m3,m4⟩:=Lo (d:=d) (bs:=spB (n-(7+files)) sp') hS.mnt dk hn hn2 (by rw[fU];omega) hl hchl hci
 refine⟨⟨m2,?_⟩,m1⟩
 rcases hdp.res with⟨r1,r2,r3,r4⟩|⟨r0,r1,r2,r3⟩
 ·rw[if_pos r1,if_pos r1]
  exact .inl ⟨r1,by rw[r1];rfl,⟨r2,r3,hcn⟩,r4⟩
 ·obtain⟨k1,k2,k3⟩:=r3 _ rfl
  refine .inr ⟨r0,r1,r2,m3,KM m3 ao hdp.since m4,k1,k2,?_⟩
  rcases k3 with⟨g1,g2⟩|⟨g1,g2⟩
  ·exact⟨F,sp,.inl ⟨g1,g2,hS.cnt⟩⟩
  ·exact⟨F',sp',.inr ⟨g1,g2,hcn⟩⟩
end
section
variable{n files k:Nat}{F:FS}{sp:Nat->Bool}{c:Option Tx}{D:DSt}{p:DSt×Nat}{data:Tx}
theorem Stt.Sq{x:Ino}(hS:Stt n files c F sp D)(hx:F rfs=some x):nU c=cY x.x:=by
 obtain⟨h1,h2⟩:=hS.has hx
 rw[iA] at h1
 rw[h1,(hS.mnt.inv.fok.ok _ _ hx).sum]
 show bc _=_
 rw[h2]
theorem Stt.RU(hS:Stt n files c F sp D)(hx:F rfs=none):nU c=0:=by have:=hS.no hx;rw[iA] at this;rw[this];rfl
theorem JK{e:Nat}{xs:List Ext}(hS:Stt n files c F sp D)(dk:Dk D k)(hn:7+files<n)(hn2:n<=4096)(hW:jc n files F sp rfs data e xs)
 (hp:p=opS D ((2+files:Nat):Int) 5 (bT (7+files) xs) data (spB (n-(7+files)) (jP (bP true sp xs) (F rfs))) [(e,bW rfs ⟨e,data.length,xs⟩)]):
 Dn n files c (some data) D (if p.2=0 then pw F rfs (some ⟨e,data.length,xs⟩) else F) (if p.2=0 then jP (bP true sp xs) (F rfs) else sp) (decide (p.2≠0)) p.1 p.2/\Dk p.1 (k+2400):=by
 have hsl:(bT (7+files) xs).length<=2048:=by rw[dC,hW.sum];have:=hW.dl;unfold bc;omega
 have hio:=hW.ino hn2
 obtain⟨f1,f2⟩:=Hb hS.mnt.inv hW hn hn2
 have hcn:fD (jP (bP true sp xs) (F rfs)) (n-(7+files))+nU (some data)=n-(7+files):=by
  have e1:=qM (m:=n-(7+files)) (Nat.le_refl _) hW.take
  have e2:=hW.sum
  have e3:=hS.cnt
  have e4:nU (some data)=bc data.length:=rfl
  cases hF:F rfs with
  |none=>
   have e6:=hS.RU hF
   show fD (bP true sp xs) _+_=_
   omega
  |some y=>
   have e6:=hS.Sq hF
   have htk:=hS.mnt.inv.fok.tk _ _ hF
   have e7:=xy (m:=n-(7+files)) (Nat.le_refl _) (htk.congr (g:=bP true sp xs) λi hin=>by rw[iE];split;rfl;exact(htk.unit hin).2)
   show fD (bP false (bP true sp xs) y.x) _+_=_
   omega
 have:=Dn.mk' (c':=some data) (d:=data) (ch:=[(e,bW rfs ⟨e,data.length,xs⟩)]) hS dk hn hn2 (λi hi=>by have:=pn hS.mnt.inv hW.take i hi;rw[hS.mnt.cl.len] at this;exact this) (by show 1<=3;omega)
  (λc hc=>by rw[List.mem_singleton.1 hc];exact⟨hW.lt,by show(bW _ _).length<=_;rw[hio.entry];exact Nat.le_refl _⟩) hcn (λsub hs=>by
    obtain⟨g1,g2⟩:=EA hS.mnt.inv hW.take hs
    exact⟨g1,λb=>(g2 b).trans (hS.cont b)⟩) ⟨f1,λb=>by rw[f2 b,hS.cont b];exact EU c (some data) b⟩ hp
 exact⟨this.1,this.2.mono ao⟩
theorem OI{x:Ino}{xs:List Ext}(hS:Stt n files c F sp D)(dk:Dk D k)(hn:7+files<n)(hn2:n<=4096)(hW:oQ n files F sp rfs data x xs)
 (hp:p=opS D ((2+files:Nat):Int) 5 (fM (7+files) x xs) (kj D.aJ (7+files) x data) (spB (n-(7+files)) (bP true sp xs)) [(x.e,bW rfs (qo x data xs))]):
 Dn n files c (some (jy D.aJ (7+files) x++data)) D (if p.2=0 then pw F rfs (some (qo x data xs)) else F) (if p.2=0 then bP true sp xs else sp) (decide (p.2≠0)) p.1 p.2/\Dk p.1 (k+2400):=by
 have hsl:(fM (7+files) x xs).length<=2049:=by
  have:=hW.dl
  have h2:=hW.sum
  have h3:(bT (7+files) xs).length<=2048:=by rw[dC,h2];unfold bc;omega
  unfold fM
  split
  ·rw[List.length_cons];omega
  ·omega
 have hio:=hW.ino hS.mnt.inv.fok hn2
 obtain⟨f1,f2⟩:=Me hS.mnt.inv hW hn hn2
 have hcn:fD (bP true sp xs) (n-(7+files))+nU (some (jy D.aJ (7+files) x++data))=n-(7+files):=by
  obtain⟨c1,c2⟩:=hS.has hW.is
  rw[iA] at c1
  have e1:=qM (m:=n-(7+files)) (Nat.le_refl _) hW.take
  have e2:=hW.sum
  have e3:=hS.cnt
  have e4:nU (some (jy D.aJ (7+files) x++data))=bc (x.n+data.length):=by show bc _=_;rw[List.length_append,c2]
  have e6:nU c=bc x.n:=by rw[c1];show bc _=_;rw[c2]
  have e7:=(zZ x.n data.length).2
  omega
 have:=Dn.mk' (c':=some (jy D.aJ (7+files) x++data)) (d:=kj D.aJ (7+files) x data) (ch:=[(x.e,bW rfs (qo x data xs))]) hS dk hn hn2 (λi hi=>by have:=BN hS.mnt.inv hW i hi;rw[hS.mnt.cl.len] at this;exact this) (by show 1<=3;omega)
  (λc hc=>by rw[List.mem_singleton.1 hc];exact⟨hio.e,by show(bW _ _).length<=_;rw[hio.entry];exact Nat.le_refl _⟩) hcn (λsub hs=>by
    obtain⟨g1,g2⟩:=E7 hS.mnt.inv hW hs
    exact⟨g1,λb=>(g2 b).trans (hS.cont b)⟩) ⟨f1,λb=>by rw[f2 b,hS.cont b];exact EU c _ b⟩ hp
 exact⟨this.1,this.2.mono ao⟩
end
section
variable{R:List RO}{O:List Own}{POST:Value->List RO->List Own->Prop}{n files un:Nat}{sp:Nat->Bool}{c:Option Tx}{D:DSt}{m:aO Tx MI}{i:Nat}
theorem Sg{E:DSt}(hE:E=(cF (re n) (jw n files)).1)(hf:1<=files/\files<=256)(hn:8+files<=n)(hn2:n<=4096):
 On0 (re n) n/\Dk (re n) 0/\Mnt n files (λ_=>none) jQ E/\E.left=0/\Dk E (files+4)/\E.keep=[]:=by
 obtain⟨_,a2,a3⟩:=Mv (s:=re n) rfl rfl rfl rfl hf.1 hn hn2
 have k0:Dk (re n) 0:=⟨DOk.new hn2,iL.new⟩
 obtain⟨b1,b2,b3⟩:=iK (x:=jw n files) k0
 rw[s9] at b1
 subst hE
 exact⟨⟨rfl,rfl,List.length_replicate⟩,k0,a2,a3,b1.mono ao,b3⟩
theorem QX{F:FS}(h:Mnt n files F sp D)(hn:7+files<=n)(hn2:n<=4096):cE D ((2+files:Nat):Int) 5=(D,0,0):=
 oF (f:=2+files) (z:=5) (n:=n) ⟨by omega,by omega,by omega,hn2⟩ h.cl
theorem Q9{F:FS}(h:Mnt n files F sp D)(hn:0<n):cD D 0=(gD n files,0):=by
 have hl:=h.cl.len
 have:=lf h.cl.off h.cl.since (i:=0) ao
 have h0:=h.inv.head
 rw[get!_of_lt ao] at h0
 rw[show((0:Nat):Int)=0 from rfl,Option.some.inj h0] at this
 exact this
end
section
variable{R:List RO}{O:List Own}{POST:Value->List RO->List Own->Prop}{s d l mb un n files k:Nat}{sp:Nat->Bool}{c:Option Tx}{m:aO Tx MI}{V:DV}{D:DSt}{data:Tx}
def CS(POST:Value->List RO->List Own->Prop)(R:List RO)(O:List Own)(s d l mb un n files k:Nat)(c c':Option Tx)(V:DV)(D:DSt):Prop:=
 ∀V' D' m' sp' off e,Dn n files c c' D (eB m') sp' off D' e->Dk D' (k+2400)->VOk V' D'->V'.kv=V.kv->POST (.int .i64 (e:Nat)) (allM m'::R) (stO s d l mb un files sp' off m' V' D' O)
structure yx(R:List RO)(d l un n files k:Nat)(c:Option Tx)(m:aO Tx MI)(sp:Nat->Bool)(V:DV)(D:DSt):Prop where
 st:Stt n files c (eB m) sp D
 hun:un=n-(7+files)
 hn:7+files<n/\n<=4096
 hfs:1<=files/\files<=256
 ht:ea∈R
 log:gP l d ((2+files:Nat):Int) 5∈R
 all:allM m∈R
 dk:Dk D k
 hm:k<=4294700000
 hv:VOk V D
 keep:SlE (SL.one vi) V.kv D.keep∈R
theorem H9(h:yx R d l un n files k c m sp V D)(hd:bc data.length+nU c<=un/\data.length<=32768)(hk:CS POST R O s d l mb un n files k c (some data) V D):
 Fun Tryz.prog 29 #[dp s,vs rfs,vs data] R (stO s d l mb un files sp false m V D O) POST:=by
 obtain⟨st,hun,hn,hfs,ht,log,all,dk,hm,hv,keep⟩:=h
 have hcnt:=st.cnt
 have hnd:bc data.length<=fD sp un/\bc data.length<=64:=⟨by rw[hun] at hd⊢;omega,by unfold bc;omega⟩
 have hpost:B4 POST R O s d l mb un files n sp m V D rfs data:=by
  intro V' p e v xs hW hp hv' hkv'
  rw[hun] at hp
  obtain⟨g1,g2⟩:=JK st dk hn.1 hn.2 hW hp
  have hf:eB (if p.2=0 then m.set rfs (e,data.length,v,xs) else m)=if p.2=0 then pw (eB m) rfs (some ⟨e,data.length,xs⟩) else eB m:=by
   split
   ·exact Jv m rfs (e,data.length,v,xs)
   ·rfl
  rw[←hf] at g1
  exact hk V' p.1 _ _ _ p.2 g1 g2 hv' hkv'
 cases hg:m.get rfs with
 |none=>
  have hc:c=none:=by have:=st.no (s7 hg);rwa [iA] at this
  refine C8 hg qa st.mnt hun hn hfs.2 ao hnd ⟨0,by omega,λb q hb=>?_⟩ ht log all dk hm hv keep hpost
  exfalso
  obtain⟨c1,_⟩:=st.has (mo hb)
  rw[hc] at c1
  unfold cfR at c1
  split at c1<;>cases c1
 |some q0=>exact CA hg qa st.mnt hun hn hfs.2 ao hnd ht log all dk hm hv keep hpost
theorem Mb{t:Tx}(h:yx R d l un n files k (some t) m sp V D)(h0:data≠ [])(hd:bc (t.length+data.length)<=un/\t.length+data.length<=32768)(hk:CS POST R O s d l mb un n files k (some t) (some (t++data)) V D):
 Fun Tryz.prog 38 #[dp s,vs rfs,vs data] R (stO s d l mb un files sp false m V D O) POST:=by
 obtain⟨st,hun,hn,hfs,ht,log,all,dk,hm,hv,keep⟩:=h
 cases hg:m.get rfs with
 |none=>
  have:=st.no (s7 hg)
  rw[iA] at this
  cases this
 |some q0=>
  obtain⟨c1,c2⟩:=st.has (mo hg)
  rw[iA] at c1
  cases c1
  have hql':q0.2.1=(jy D.aJ (7+files) (miI q0)).length:=c2.symm
  have hna:=(zZ q0.2.1 data.length)
  have hcnt:=st.cnt
  have e6:nU (some (jy D.aJ (7+files) (miI q0)))=bc q0.2.1:=by show bc _=_;rw[c2];rfl
  rw[←hql'] at hd
  refine Ae hg qa st.mnt hun hn hfs.2 h0 ao ⟨by rw[e6,←hun] at hcnt;omega,by unfold bc;omega⟩ ht log all dk hm hv keep ?_
  intro V' p v xs hW hp hv' hkv'
  rw[hun] at hp
  obtain⟨g1,g2⟩:=OI st dk hn.1 hn.2 hW hp
  have hf:eB (if p.2=0 then m.set rfs (q0.1,q0.2.1+data.length,v,q0.2.2.2++xs) else m)=if p.2=0 then pw (eB m) rfs (some (qo (miI q0) data xs)) else eB m:=by
   split
   ·exact Jv m rfs (q0.1,q0.2.1+data.length,v,q0.2.2.2++xs)
   ·rfl
  rw[←hf] at g1
  exact hk V' p.1 _ _ _ p.2 g1 g2 hv' hkv'
theorem Stt.aJ{F:FS}{E:DSt}(h:Stt n files c F sp D)(h1:E.aJ=D.aJ)(h2:E.off=false)(h3:E.since=[]):Stt n files c F sp E:=
 ⟨⟨by rw[h1];exact h.mnt.inv,h2,h3,by rw[h1];exact h.mnt.cl.len,by rw[h1];exact h.mnt.cl.zero⟩,by rw[h1];exact h.cont,h.cnt⟩
theorem Stt.cut{F:FS}(h:Stt n files c F sp D)(j:Int)(keep:List Int):Stt n files c F sp (vZ D j keep):=h.aJ rfl h.mnt.cl.off h.mnt.cl.since
theorem Stt.on{F:FS}(h:Stt n files c F sp D):Stt n files c F sp (onS D):=h.aJ rfl rfl h.mnt.cl.since
theorem Dk.cut(h:Dk D k){j:Int}(hj:j<=100)(keep:List Int):Dk (vZ D j keep) k:=⟨h.ok.cut _ ao _,h.w.cut _ _⟩
theorem Dk.on(h:Dk D k):Dk (onS D) k:=⟨h.ok.on,h.w.on⟩
end
end Go.Proofs.YtebpkhlifcffnaaGreatDoor.Fs
namespace Go.Proofs.YtebpkhlifcffnaaGreatDoor.Fs
open Go Go.SL
theorem H6(u:List Upd)(r:Tx)(h:(sB u).length<=20000):frU u++r≠ []:=λe=>by
 have h1:=(qN (k:=2) h).1
 have h2:=congrArg List.length e
 rw[List.length_append] at h2
 unfold frU at h2
 have h3:([]:Tx).length=0:=rfl
 omega
def Rdn(f:Bool)(hd rest:Tx)(t':List Ref)(L':List Upd)(c:Tx)(t:List Ref)(L:List Upd):Prop:=
 (f=true/\hd=[]/\ ∃t0 L0 us,rest=EG t0 L0 us/\TOk t0 L0/\Chn t0 L0 us t L)∨
 (f=false/\hd=hdM/\TOk t' L'/\ ∃us,rest=us.flatMap frU/\Chn t' L' us t L)
theorem Rdn.step{f:Bool}{hd rest:Tx}{t':List Ref}{L':List Upd}{c:Tx}{t:List Ref}{L:List Upd}(h:Rdn f hd rest t' L' c t L)(hc:f=true∨rest≠ []):
 ∃k body rest2 t2 L2,rest=eQ k body++rest2/\body.length<=20000/\Ro f k body t' L' t2 L2/\(f=false->hd=hdM)/\Rdn false hdM rest2 t2 L2 c t L:=by
 rcases h with⟨rfl,rfl,t0,L0,us,rfl,h1,h2⟩|⟨rfl,rfl,h1,us,rfl,h2⟩
 ·exact⟨1,pC t0 L0,us.flatMap frU,t0,L0,rfl,by have:=h1.join.2.2;omega,.inl ⟨rfl,rfl,rfl,h1⟩,(λe=>by cases e),.inr ⟨rfl,rfl,h1,us,rfl,h2⟩⟩
 ·cases us with
  |nil=>rcases hc with e|e
        ·cases e
        ·exact absurd rfl e
  |cons u us=>
   obtain⟨g1,g2,g3⟩:=h2
   exact⟨2,sB u,us.flatMap frU,eZ t' u,L'++u,rfl,by have:=(qg g1.ok ao).2.1;omega,.inr ⟨rfl,rfl,u,rfl,g1,h1,g2,rfl,rfl⟩,λ_=>rfl,.inr ⟨rfl,rfl,h1.app g1 g2,us,rfl,g3⟩⟩
theorem Rdn.fin{hd:Tx}{t':List Ref}{L':List Upd}{c:Tx}{t:List Ref}{L:List Upd}(h:Rdn false hd [] t' L' c t L):hd=hdM/\t=t'/\L=L':=by
 rcases h with⟨e,_⟩|⟨_,h0,h1,us,e,h2⟩
 ·cases e
 ·cases us with
  |nil=>exact⟨h0,h2.1,h2.2⟩
  |cons u us=>exact absurd e.symm (H6 u _ (by have:=(qg h2.1.ok (by have:=h2.2.1;omega)).2.1;omega))
section
variable{R:List RO}{O O':List Own}{POST:Value->List RO->List Own->Prop}
set_option maxRecDepth 20000 in
set_option maxHeartbeats 1000000 in
theorem F4{t:List Ref}{L:List Upd}{r s size:Nat}{rv lv:Value}{hd:Tx}(hx:dQ 1∈R)(hok:TOk t L)
 (hk: ∀rv' lv',bL rv'->bL lv'->POST (.bool true) (SlE encR rv' t::SlE bl lv' L::R) (az r 88 (eF s rv' hdM lv' size)::O)):
 Fun Tryz.prog 34 #[dp r,.bool true,.int .u8 ((1:UInt8).toNat:Int),vs (pC t L)] R (az r 88 (eF s rv hd lv size)::O) POST:=by
 refine bp<|aC (l:=[_,_,_,_]) Tryz.func34 rfl Tryz.ntmps34 rfl (L0:=[(0,_),(1,_),(2,_),(3,_)]) rfl ?_
 refine aD<|ar rfl<|a7<|ar rfl<|aw ?_
 refine aF<|WC.block ?_
 refine aD<|af rfl ?_
 refine aU 13 (u:=.bool (decide True)) rfl (by simp) ?_
 refine af rfl<|WL.case 14 rfl (λhg14=>?_) (λhg14=>?_)
 ·
  refine aT rfl (al rfl rfl)<|aT rfl (Rd.eql rfl rfl rfl)<|ab rfl (aY rfl rfl rfl)<|ar rfl<|aw<|aE rfl (λhc1=>?_) (λhc1=>?_)
  ·
   refine aB<|af rfl<|af rfl<|aq rfl<|aj rfl rfl aZ an rfl rfl rfl ?_
   refine A0 hx hok ?_;intro v21 u21 hv21 hu21
   refine af rfl<|bH rfl<|bH rfl<|ab rfl (aL rfl rfl)<|ab rfl (by exact ak rfl tO rfl rfl) ?_
   refine aq rfl<|aM (h1:=by simp only[List.all_cons,List.all_nil,hv21.one,hu21.one];rfl) rfl G48 rfl rfl ba bh rfl rfl ba rfl ?_
   refine ar rfl<|aG<|aA<|aa<|aD<|af rfl<|ab rfl (Rd.eql rfl rfl rfl) ?_
   refine aU 55 (u:=.bool true) rfl (by simp) ?_
   refine ar rfl<|aw<|WC.ret (Ret.one Tryz.results34 rfl ?_)
   exact⟨_,_,hk v21 u21 hv21 hu21,bN⟩
  ·
   exact absurd rfl hc1
 ·
  exact absurd trivial hg14
set_option maxRecDepth 20000 in
set_option maxHeartbeats 1000000 in
theorem CJ{t:List Ref}{L u:List Upd}{r s size:Nat}{rv lv:Value}(hx:dQ 1∈R)(hv:SlE encR rv t∈R)(hL:SlE bl lv L∈R)(hok:TOk t L)(hup:lW t u)(hn:L.length+u.length<=120)
 (hk: ∀rv' lv',bL rv'->bL lv'->POST (.bool true) (SlE encR rv' (eZ t u)::SlE bl lv' (L++u)::R) (az r 88 (eF s rv' hdM lv' size)::O)):
 Fun Tryz.prog 34 #[dp r,.bool false,.int .u8 ((2:UInt8).toNat:Int),vs (sB u)] R (az r 88 (eF s rv hdM lv size)::O) POST:=by
 refine bp<|aC (l:=[_,_,_,_]) Tryz.func34 rfl Tryz.ntmps34 rfl (L0:=[(0,_),(1,_),(2,_),(3,_)]) rfl ?_
 refine aD<|ar rfl<|a7<|ar rfl<|aw ?_
 refine aF<|WC.block ?_
 refine aD<|af rfl ?_
 refine aU 13 (u:=.bool (decide False)) rfl rfl ?_
 refine af rfl<|WL.case 14 rfl (λhg14=>?_) (λhg14=>?_)
 ·
  exact hg14.elim
 ·
  refine aW rfl<|aW rfl<|ab rfl (aQ rfl rfl rfl)<|ar rfl<|aw<|WC.no rfl<|aD<|af rfl<|ab rfl (by exact Rd.not rfl rfl) ?_
  refine aU 28 (u:=.bool (decide True)) rfl (by simp) ?_
  refine af rfl<|WL.case 29 rfl (λhg29=>?_) (λhg29=>?_)
  ·
   refine aT rfl (al rfl rfl)<|aT rfl (Rd.eql rfl rfl rfl)<|ab rfl (aY rfl rfl rfl)<|ar rfl<|aw<|aE rfl (λhc2=>?_) (λhc2=>?_)
   ·
    refine aD<|ar rfl<|a7<|ar rfl<|a7<|af rfl ?_
    refine aq rfl<|aj rfl rfl aZ an rfl rfl rfl ?_
    refine yu hup.ok ao ?_;intro v35 hv35
    refine af rfl<|bH rfl<|bH rfl<|bH rfl<|ar rfl<|ar rfl<|ar rfl<|a7<|af rfl<|ab rfl (Rd.eql rfl rfl rfl)<|aw<|aE rfl (λhc3=>?_) (λhc3=>?_)
    ·
     refine aB<|af rfl<|af rfl<|ab rfl (aL rfl rfl)<|ab rfl (by exact ak rfl tO rfl rfl) ?_
     refine ab rfl (by exact bj rfl G48 rfl aK ba rfl) ?_
     refine af rfl<|af rfl<|aq rfl<|aj rfl rfl aZ an rfl rfl rfl ?_
     refine uB (t:=t) (L:=L) (l:=u) aK aK aK aK hok hup hn ?_;intro v49 u49 hv49 hu49
     refine af rfl<|bH rfl<|bH rfl<|ab rfl (aL rfl rfl)<|ab rfl (by exact ak rfl tO rfl rfl) ?_
     refine aq rfl<|aM (h1:=by simp only[List.all_cons,List.all_nil,hv49.one,hu49.one];rfl) rfl G48 rfl rfl ba bh rfl rfl ba rfl ?_
     refine ar rfl<|aG<|aA<|aa<|aD<|af rfl<|ab rfl (Rd.eql rfl rfl rfl) ?_
     refine aU 55 (u:=.bool true) rfl (by simp) ?_
     refine ar rfl<|aw<|WC.ret (Ret.one Tryz.results34 rfl ?_)
     exact⟨_,_,hk v49 u49 hv49 hu49,bN⟩
    ·
     exact absurd rfl hc3
   ·
    exact absurd rfl hc2
  ·
   exact absurd trivial hg29
theorem Bd{t t2:List Ref}{L L2:List Upd}{f:Bool}{k:UInt8}{body hd:Tx}{r s size:Nat}{rv lv:Value}(hx:dQ 1∈R)(hv:SlE encR rv t∈R)(hL:SlE bl lv L∈R)(h:Ro f k body t L t2 L2)(hhd:f=false->hd=hdM)
 (hk: ∀rv' lv',bL rv'->bL lv'->POST (.bool true) (SlE encR rv' t2::SlE bl lv' L2::R) (az r 88 (eF s rv' hdM lv' size)::O)):
 Fun Tryz.prog 34 #[dp r,.bool f,.int .u8 (k.toNat:Int),vs body] R (az r 88 (eF s rv hd lv size)::O) POST:=by
 rcases h with⟨rfl,rfl,rfl,h⟩|⟨rfl,rfl,u,rfl,h1,h2,h3,rfl,rfl⟩
 ·exact F4 hx h hk
 ·obtain rfl:=hhd rfl
  exact CJ hx hv hL h2 h1 h3 hk
end
end Go.Proofs.YtebpkhlifcffnaaGreatDoor.Fs
namespace Go.Proofs.YtebpkhlifcffnaaGreatDoor.Fs
open Go Go.SL
structure OG where
 f:Bool
 hd:Tx
 rest:Tx
 t:List Ref
 L:List Upd
 rv:Value
 lv:Value
def oT(c:Tx)(t:List Ref)(L u:List Upd):Tx:=if c.length+(frU u).length<=8192 then c++frU u else frT (eZ t u) (L++u)
theorem RSt.next{c:Tx}{t:List Ref}{L u:List Upd}(h:RSt c t L)(hu:lW t u)(hn:L.length+u.length<=120):RSt (oT c t L u) (eZ t u) (L++u):=by
 unfold oT
 split
 ·rename_i hc;exact h.app hu hn hc
 ·exact RSt.all (h.tok.app hu hn)
theorem yx.mono{R R':List RO}{d l un n files k:Nat}{c:Option Tx}{m:aO Tx MI}{sp:Nat->Bool}{V:DV}{D:DSt}(h:yx R d l un n files k c m sp V D)(hs: ∀p∈R,p∈R'):yx R' d l un n files k c m sp V D:=
 ⟨h.st,h.hun,h.hn,h.hfs,hs _ h.ht,hs _ h.log,hs _ h.all,h.dk,h.hm,h.hv,hs _ h.keep⟩
section
variable{R:List RO}{O O':List Own}{POST:Value->List RO->List Own->Prop}{s d l mb un n files k:Nat}{sp:Nat->Bool}{c:Tx}{m:aO Tx MI}{V:DV}{D:DSt}
set_option maxRecDepth 20000 in
set_option maxHeartbeats 2000000 in
theorem wV{t:List Ref}{L:List Upd}(hx:dQ 1∈R)(h:yx R d l un n files k (some c) m sp V D)(hr:RSt c t L)
 (hk: ∀r rv lv,bL rv->bL lv->POST (.tuple #[dp r,.int .i64 0]) (SlE encR rv t::SlE bl lv L::R) (az r 88 (eF s rv hdM lv c.length)::stO s d l mb un files sp false m V D O)):
 Fun Tryz.prog 9 #[dp s] R (stO s d l mb un files sp false m V D O) POST:=by
 have hcl:=hr.len
 have hht:=h.ht
 obtain⟨t0,L0,us,hc0,h1,h2⟩:=hr.ex
 have hR0:Rdn true [] c [] [] c t L:=.inl ⟨rfl,rfl,t0,L0,us,hc0,h1,h2⟩
 obtain⟨q,hq,hqc⟩: ∃q,m.get rfs=some q/\jy D.aJ (7+files) (miI q)=c:=by
  cases hg:m.get rfs with
  |none=>have:=h.st.no (s7 hg);rw[iA] at this;cases this
  |some q=>have:=(h.st.has (mo hg)).1;rw[iA] at this;exact⟨q,rfl,(Option.some.inj this).symm⟩
 refine bp<|aC (l:=[_]) Tryz.func9 rfl Tryz.ntmps9 rfl (L0:=[(0,_)]) rfl ?_
 refine aD<|ar rfl<|ar rfl<|aw<|bd<|af rfl<|ab rfl (by exact ig rfl Tryz.underlying30 rfl rfl) ?_
 refine aw<|WC.cond rfl (λhc1=>?_) (λhc1=>?_)
 ·
  cases hc1
 ·
  refine ay<|aa<|aD<|af rfl ?_
  refine aq rfl<|aj rfl rfl aZ an rfl rfl rfl ?_
  refine FO (m:=m) hq h.st.mnt h.hfs.2 h.dk (by have:=h.hm;omega) h.all ?_;rw[hqc]
  refine af rfl<|bH rfl<|bH rfl<|ar rfl<|ar rfl<|aw<|bd<|af rfl<|ab rfl (Rd.neq rfl rfl rfl)<|aw<|aE rfl (λhc2=>?_) (λhc2=>?_)
  ·
   exact absurd rfl hc2
  ·
   refine ay<|aa<|aD<|af rfl<|af rfl<|ab rfl (cg (ts:=#[]) (ty:=0) rfl rfl Tryz.underlying9) ?_
   refine ab rfl (bO (ps:=[(0,_),(2,_)]) rfl SJ I88 rfl aZ fy (by apply NFo.mk;repeat(first|exact NF.nil|apply NF.cons))) ?_
   refine aq rfl<|OpW.box rfl rfl ba rfl rfl ?_;intro b26
   refine ar rfl<|aw<|aF<|aF<|WC.heap (λw h=>h.tj (α:=Upd) (enc:=bl)) ?_
   refine WC.heap (λw h=>h.tj (α:=Ref) (enc:=encR)) ?_
   refine aB<|ar rfl<|aw<|WC.block ?_
   refine WC.pick [7,4,6] eS ?_
   refine rI 2 (λ(q:OG)=>[(7,.bool q.f),(4,vs q.rest)]) (λ(q:OG)=>SlE encR q.rv q.t::SlE bl q.lv q.L::R) (λ(q:OG)=>az b26 88 (eF s q.rv q.hd q.lv c.length)::stO s d l mb un files sp false m V D O) (λ(q:OG)=>Rdn q.f q.hd q.rest q.t q.L c t L/\q.rest.length<=12300/\bL q.rv/\bL q.lv) (λ(q:OG)=>q.rest.length+(if q.f=true then 1 else 0)) (⟨true,[],c,[],[],.slice none 0 0,.slice none 0 0⟩) iw ?hinv1 cC (λ_ h=>h) ?_
   case hinv1=>
    exact⟨hR0,hcl,bL.sl,bL.sl⟩
   intro q
   rintro⟨i1,i2,i3,i4⟩
   refine aF<|WC.pick [4,6,7] eS ?_
   refine WC.val 31 (.bool (decide (q.f=true∨q.rest≠ []))) ?_ ?_
   ·
    refine aB<|af rfl<|aU 27 (u:=.bool (decide (q.f=true))) rfl (by simp) ?_
    refine af rfl<|WL.case 28 rfl (λhg28=>?_) (λhg28=>?_)
    ·
     refine aW rfl<|aW rfl<|ab rfl (aY rfl rfl rfl)<|aG ?_
     exact⟨by repeat(first|exact Sub.nil|refine Sub.cons rfl (by first|rfl|(exact pd (.inl hg28))) ?_),by exact(λ_ h=>h.thin (cB.mem cz))⟩
    ·
     refine aT rfl (al rfl rfl)<|aT rfl (fA rfl rfl rfl)<|ab rfl (aQ rfl rfl rfl)<|aG ?_
     exact⟨by repeat(first|exact Sub.nil|refine Sub.cons rfl (by first|rfl|(exact vb ⟨.inr,λh=>h.resolve_left hg28⟩)) ?_),by exact(λ_ h=>h.thin (cB.mem cz))⟩
   ·
    refine aE rfl (λhc3=>?_) (λhc3=>?_)
    ·
     obtain⟨k1,body,rest2,t2,L2,hrest,hbl,hlrn,hhd,hnext⟩:=i1.step hc3
     have hnx:=Cf (k:=k1) (b:=body) ao rest2
     have hfl:=qN (k:=k1) (b:=body) hbl
     have hrl:q.rest.length=(eQ k1 body).length+rest2.length:=by rw[hrest,List.length_append]
     rw[←hrest] at hnx
     refine ay<|aa<|aF<|WC.block ?_
     refine aD<|af rfl ?_
     refine aq rfl<|aj rfl rfl aZ an rfl rfl rfl ?_
     refine yW (s:=q.rest) aK ao ?_;rw[hnx]
     refine af rfl<|bH rfl<|bH rfl<|bH rfl<|bH rfl<|ar rfl<|ar rfl<|ar rfl<|ar rfl<|aw<|bd<|af rfl<|ab rfl (Rd.neq rfl rfl rfl)<|af rfl ?_
     refine WL.case 41 rfl (λhg41=>?_) (λhg41=>?_)
     ·
      exact absurd rfl hg41
     ·
      refine aT rfl (al rfl rfl)<|aT rfl (al rfl rfl)<|aT rfl (al rfl rfl)<|aT rfl (al rfl rfl)<|WL.c4 rfl rfl rfl rfl<|aj rfl rfl aZ an rfl rfl rfl ?_
      refine Bd (t:=q.t) (L:=q.L) (f:=q.f) (k:=k1) (body:=body) (hd:=q.hd) (r:=b26) (s:=s) (size:=c.length) aK aK aK hlrn hhd ?_;intro rv' lv' g1 g2
      refine aT rfl (by exact Rd.not rfl rfl) ?_
      refine ab rfl (aQ rfl rfl rfl)<|aw<|WC.cond rfl (λhc4=>?_) (λhc4=>?_)
      ·
       cases hc4
      ·
       refine ay<|aa<|aB<|af rfl<|af rfl<|ab rfl (gh (lo:=(eQ k1 body).length) rfl Tryz.underlying9 rfl rfl rfl ao) ?_
       refine aU 51 (u:=vs rest2) rfl (by rw[hrest,List.drop_left]) ?_
       exact ar rfl<|aG<|aA<|aa<|aB<|ar rfl<|aG<|bq.mk ⟨false,hdM,rest2,t2,L2,rv',lv'⟩ ⟨hnext,by show rest2.length<=_;omega,g1,g2⟩ (by show rest2.length+0<_;omega) cC bN
    ·
     obtain⟨qf,qhd,qrest,qt,qL,qrv,qlv⟩:=q
     have hf:qf=false:=by
      cases qf with
      |false=>rfl
      |true=>exact absurd (.inl rfl) hc3
     have hre:qrest=[]:=Classical.byContradiction λe=>hc3 (.inr e)
     subst hf hre
     obtain⟨rfl,rfl,rfl⟩:=i1.fin
     refine WC.exit<|au.exit<|bq.exit<|aH.exit<|aa<|aD<|af rfl<|ar rfl<|ar rfl<|aw ?_
     refine WC.ret (Ret.two Tryz.results9 rfl rfl ?_)
     exact⟨_,_,hk b26 qrv qlv i3 i4,bN⟩
set_option maxRecDepth 20000 in
set_option maxHeartbeats 4000000 in
theorem AI{t:List Ref}{L u:List Upd}{r:Nat}{rv lv uv:Value}(hx:dQ 1∈R)(h:yx R d l un n files k (some c) m sp V D)(hr:RSt c t L)(hv:SlE encR rv t∈R)(hL:SlE bl lv L∈R)(hu:SlE bl uv u∈R)(hup:lW t u)(hn:L.length+u.length<=120)(hun:60<=un)
 (hk: ∀V' D' m' sp' off e rv' lv',Dn n files (some c) (some (oT c t L u)) D (eB m') sp' off D' e->Dk D' (k+2400)->VOk V' D'->V'.kv=V.kv->bL rv'->bL lv'->POST (.int .i64 (e:Nat)) (SlE encR rv' (eZ t u)::SlE bl lv' (L++u)::allM m'::R) (az r 88 (if e=0 then eF s rv' hdM lv' (oT c t L u).length else eF s rv hdM lv c.length)::stO s d l mb un files sp' off m' V' D' O)):
 Fun Tryz.prog 11 #[dp r,uv,vs []] R (az r 88 (eF s rv hdM lv c.length)::stO s d l mb un files sp false m V D O) POST:=by
 have hcl:=hr.len
 have hht:=h.ht
 have hul:u.length<=120:=by omega
 obtain⟨q1,q2,q3,q4⟩:=qg hup.ok hul
 have hfu:=qN (k:=2) (b:=sB u) ao
 have hpu:=gW u
 have hok2:=hr.tok.app hup hn
 have hft:=qN (k:=1) (b:=pC (eZ t u) (L++u)) (by have:=hok2.join.2.2;omega)
 have hjn:=hok2.join.2.2
 have e1:(frU u).length=(eQ 2 (sB u)).length:=rfl
 have e2:(frT (eZ t u) (L++u)).length=(eQ 1 (pC (eZ t u) (L++u))).length:=rfl
 refine bp<|Fun.len hu λhll=>?_
 refine aC (l:=[_,_,_]) Tryz.func11 rfl Tryz.ntmps11 rfl (L0:=[(0,_),(1,_),(2,_)]) rfl ?_
 refine aD<|ar rfl<|aw<|bd<|af rfl<|ab rfl (by exact ig rfl Tryz.underlying34 rfl rfl) ?_
 refine aw<|WC.cond rfl (λhc1=>?_) (λhc1=>?_)
 ·
  cases hc1
 ·
  refine ay<|aa<|aD<|af rfl<|ab rfl (aL rfl rfl)<|ab rfl (by exact ak rfl tO rfl rfl) ?_
  refine ab rfl (bj (b:=r) (off:=1) rfl G48 rfl aK ba rfl) ?_
  refine af rfl<|af rfl<|aq rfl<|aj rfl rfl aZ an rfl rfl rfl ?_
  refine uB (t:=t) (L:=L) (l:=u) hx hv hL hu hr.tok hup hn ?_;intro rv' lv' g1 g2
  refine af rfl<|bH rfl<|bH rfl<|aq rfl<|OpW.alloc rfl I48 rfl ba rfl rfl ?_;intro b7
  refine aq rfl<|aM (h1:=by simp only[List.all_cons,List.all_nil,g1.one,g2.one];rfl) rfl G48 rfl rfl ba bh rfl rfl ba rfl ?_
  refine ar rfl<|aw<|bd<|af rfl<|ab rfl (Rd.neq rfl rfl rfl)<|aw<|aE rfl (λhc2=>?_) (λhc2=>?_)
  ·
   exact absurd rfl hc2
  ·
   refine ay<|aa<|aD<|ar rfl<|aw ?_
   refine aF<|aF<|WC.heap (R':=SlE encR rv' (eZ t u)::SlE bl lv' (L++u)::R) (O':=bt 9 1 (SL.one vs) (.slice none 0 0) []::az b7 48 [rv',vs hdM,lv']::az r 88 (eF s rv hdM lv c.length)::stO s d l mb un files sp false m V D O) (λw h=>by have h2:=Sat.dH (e:=9) (size:=1) (enc:=SL.one vs) h;exact dj h2) ?_
   refine aB<|af rfl<|ab rfl (bu (enc:=bl) (xs:=u) rfl rfl Tryz.underlying38 aK) ?_
   refine af rfl<|aw<|WC.block ?_
   refine WC.pick [9,31,0,2,7,29,30] eS ?_
   refine WC.ia 2 (λ(i:Nat) (pv:Value)=>[(9,pv),(31,.int .i64 (i:Int))]) (λ(i:Nat) (pv:Value)=>bt 9 1 (SL.one vs) pv (bz (u.take i))::az b7 48 [rv',vs hdM,lv']::az r 88 (eF s rv hdM lv c.length)::stO s d l mb un files sp false m V D O) (λ(i:Nat) (pv:Value)=>i<=u.length/\bL pv) (λ(i:Nat) (pv:Value)=>u.length-i) (0) (.slice none 0 0) iw ?hinv1 cC (λw h=>by rw[show bz (u.take 0)=[] from rfl];exact dj h) ?_
   case hinv1=>
    exact⟨Nat.zero_le _,bL.sl⟩
   intro i pv
   rintro⟨i1,i2⟩
   refine aD<|ab rfl (Rd.lss rfl rfl rfl)<|aw ?_
   refine aF<|aE rfl (λhc3=>?_) (λhc3=>?_)
   ·
    have hpl:=gW (u.take i)
    rw[List.length_take] at hpl
    refine ay<|aa<|aF<|WC.block ?_
    refine aD<|ab rfl (dy (enc:=bl) (xs:=u) (k:=i) rfl S38 rfl rfl rfl aK ao) ?_
    refine ab rfl (dM (k:=i) (a:=u[i]!) (cs:=bl u[i]!) (enc:=bl) (xs:=u) rfl G43 rfl aK (λ_=>rfl) (get!_of_lt ao) ba) ?_
    refine aq rfl<|OpW.alloc rfl I43 rfl ba rfl rfl ?_;intro b11
    refine aq rfl<|aM rfl G43 rfl rfl ba bh rfl rfl ba rfl ?_
    refine lE<|af rfl<|ab rfl (by exact ak rfl qn rfl rfl) ?_
    refine ab rfl (by exact ax rfl C9 rfl aK (by rfl)) ?_
    refine ab rfl (by exact ak rfl zQ rfl rfl) ?_
    refine ab rfl (by exact ax rfl C9 rfl aK (by rfl)) ?_
    refine ab rfl (by exact ak rfl uo rfl rfl) ?_
    refine ab rfl (by exact ax rfl C9 rfl aK (by rfl)) ?_
    refine aq rfl<|aX (ps:=[(0,_),(1,_),(2,_)]) rfl S37 aZ rfl rfl fy an rfl rfl rfl ?_;intro b42
    refine aq rfl<|bR (enc:=SL.one vs) rfl S37 rfl rfl bh bh [u[i]!.1,u[i]!.2.1,u[i]!.2.2] rfl (by rfl) rfl ie ie (by exact⟨by simp only[maxLen,List.length_append,List.length_nil,List.length_cons,List.length_drop,List.length_take,List.length_map];omega,by omega⟩) rfl rfl ?_;intro v43 hv43
    refine ar rfl<|aG<|aA<|aa<|aB<|ab rfl (Rd.add rfl rfl rfl ao) ?_
    exact af rfl<|aG<|bC.mk (i+1) v43 ⟨by omega,hv43⟩ ao cC (by rw[sb ao];exact bN)
   ·
    obtain rfl:i=u.length:=by omega
    rw[List.take_length]
    refine WC.heap (λw h=>Sat.eE (xs:=bz u) (v:=pv) (enc:=SL.one vs) bh h) ?_
    refine WC.exit<|au.exit<|bC.exit<|aH.exit<|aa<|aD<|af rfl<|af rfl ?_
    refine aq rfl<|aj rfl rfl aZ an rfl rfl rfl ?_
    refine eo (l:=bz u) aK ao ?_
    refine aq rfl<|aX (ps:=[(0,_),(1,_)]) rfl S37 aZ rfl rfl fy an rfl rfl rfl ?_;intro b48
    refine WL.heap (λw h=>Sat.gC (b:=b48) (enc:=SL.one vs) (xs:=[[],bD (bz u)]) bh rfl rfl (show(2:Nat)<=9223372036854775807 by decide) h) ?_
    refine aq rfl<|aj rfl rfl aZ an rfl rfl rfl ?_
    refine eo (l:=[[],bD (bz u)]) aK (by show(sB u).length<=_;omega) ?_
    refine aq rfl<|aj rfl rfl aZ an rfl rfl rfl ?_
    refine pB (k:=2) (b:=sB u) aK ?_
    refine ar rfl<|a7<|af rfl<|ab rfl (aL rfl rfl)<|ab rfl (by exact ak rfl H8 rfl rfl) ?_
    refine ab rfl (ax (b:=r) (off:=4) (u:=.int .i64 (c.length:Int)) rfl C3 rfl aK rfl) ?_
    refine af rfl<|ab rfl (cg (ts:=#[]) (ty:=0) rfl rfl Tryz.underlying9) ?_
    refine ab rfl (Rd.add rfl rfl rfl ao) ?_
    refine ar rfl<|aw<|bd<|af rfl<|ab rfl (Rd.leq rfl rfl rfl)<|aw<|aE rfl (λhc4=>?_) (λhc4=>?_)
    ·
     have hnc:oT c t L u=c++frU u:=if_pos ao
     have hfn:frU u≠ []:=by have:=H6 u [] ao;rwa [List.append_nil] at this
     refine aB<|af rfl<|ab rfl (aL rfl rfl)<|ab rfl (by exact ak rfl NV rfl rfl) ?_
     refine ab rfl (ax (b:=r) (off:=0) (u:=dp s) rfl C30 rfl aK rfl) ?_
     refine af rfl<|aq rfl<|aj rfl rfl aZ an rfl rfl rfl ?_
     refine Fun.heap (O':=stO s d l mb un files sp false m V D (az b7 48 [rv',vs hdM,lv']::az r 88 (eF s rv hdM lv c.length)::O)) bN ?_
     refine Mb (t:=c) (data:=frU u) (h.mono (λ_ hp=>by repeat(first|exact hp|refine List.mem_cons_of_mem _ ?_))) hfn ⟨by unfold bc;omega,by omega⟩ ?_
     intro V' D' m' sp' off e hdn hdk hv' hkv'
     rw[←hnc] at hdn
     refine ar rfl<|aw<|bd<|af rfl<|ab rfl (Rd.neq rfl rfl rfl)<|aw<|aE rfl (λhc5=>?_) (λhc5=>?_)
     ·
      refine aD<|af rfl<|ar rfl<|aw ?_
      refine WC.ret (au.fJ (Ret.one Tryz.results11 rfl ?_))
      exact⟨_,_,hk V' D' m' sp' off e rv' lv' hdn hdk hv' hkv' g1 g2,by rw[if_neg ao];exact bN⟩
     ·
      refine ay<|aa<|aD<|af rfl<|af rfl<|ab rfl (bj (b:=b7) (off:=0) rfl G48 rfl aK ba rfl) ?_
      refine af rfl<|ab rfl (aL rfl rfl)<|ab rfl (by exact ak rfl tO rfl rfl) ?_
      refine aq rfl<|aM (b:=r) (off:=1) (h1:=by simp only[List.all_cons,List.all_nil,g1.one,g2.one];rfl) rfl G48 rfl rfl ba bh rfl rfl ba rfl ?_
      refine ab rfl (aL rfl rfl)<|ab rfl (by exact ak rfl H8 rfl rfl) ?_
      refine aq rfl<|aV rfl Z3 rfl rfl (by exact⟨rfl,rfl⟩) bh (by(simp;done)) rfl ?_
      refine a7<|ar rfl<|aw ?_
      refine WC.ret (Ret.one Tryz.results11 rfl ?_)
      exact⟨_,_,by
      obtain rfl:e=0:=by omega
      exact hk V' D' m' sp' off 0 rv' lv' hdn hdk hv' hkv' g1 g2,by rw[if_pos rfl,hnc,List.length_append];push_cast;exact bN⟩
    ·
     have hnc:oT c t L u=frT (eZ t u) (L++u):=if_neg ao
     refine aD<|ab rfl (bj (b:=b7) (off:=0) rfl G48 rfl aK ba rfl) ?_
     refine aq rfl<|aj rfl rfl aZ an rfl rfl rfl ?_
     refine rW (t:=eZ t u) (L:=L++u) aK aK hok2 ?_
     refine aq rfl<|aj rfl rfl aZ an rfl rfl rfl ?_
     refine pB (k:=1) (b:=pC (eZ t u) (L++u)) aK ?_
     refine ar rfl<|a7<|af rfl<|ab rfl (cg (ts:=#[]) (ty:=0) rfl rfl Tryz.underlying9) ?_
     refine ar rfl<|lE<|af rfl<|ab rfl (aL rfl rfl)<|ab rfl (by exact ak rfl NV rfl rfl) ?_
     refine ab rfl (ax (b:=r) (off:=0) (u:=dp s) rfl C30 rfl aK rfl) ?_
     refine af rfl<|aq rfl<|aj rfl rfl aZ an rfl rfl rfl ?_
     refine Fun.heap (O':=stO s d l mb un files sp false m V D (az b7 48 [rv',vs hdM,lv']::az r 88 (eF s rv hdM lv c.length)::O)) bN ?_
     refine H9 (data:=frT (eZ t u) (L++u)) (h.mono (λ_ hp=>by repeat(first|exact hp|refine List.mem_cons_of_mem _ ?_))) ⟨by show bc _+bc c.length<=un;unfold bc;omega,by omega⟩ ?_
     intro V' D' m' sp' off e hdn hdk hv' hkv'
     rw[←hnc] at hdn
     refine ar rfl<|aw<|bd<|af rfl<|ab rfl (Rd.neq rfl rfl rfl)<|aw<|aE rfl (λhc5=>?_) (λhc5=>?_)
     ·
      refine aD<|af rfl<|ar rfl<|aw ?_
      refine WC.ret (au.fJ (Ret.one Tryz.results11 rfl ?_))
      exact⟨_,_,hk V' D' m' sp' off e rv' lv' hdn hdk hv' hkv' g1 g2,by rw[if_neg ao];exact bN⟩
     ·
      refine ay<|aa<|aD<|af rfl<|af rfl<|ab rfl (bj (b:=b7) (off:=0) rfl G48 rfl aK ba rfl) ?_
      refine af rfl<|ab rfl (aL rfl rfl)<|ab rfl (by exact ak rfl tO rfl rfl) ?_
      refine aq rfl<|aM (b:=r) (off:=1) (h1:=by simp only[List.all_cons,List.all_nil,g1.one,g2.one];rfl) rfl G48 rfl rfl ba bh rfl rfl ba rfl ?_
      refine ab rfl (aL rfl rfl)<|ab rfl (by exact ak rfl H8 rfl rfl) ?_
      refine aq rfl<|aV rfl Z3 rfl rfl (by exact⟨rfl,rfl⟩) bh (by(simp;done)) rfl ?_
      refine a7<|ar rfl<|aw ?_
      refine WC.ret (Ret.one Tryz.results11 rfl ?_)
      exact⟨_,_,by
      obtain rfl:e=0:=by omega
      exact hk V' D' m' sp' off 0 rv' lv' hdn hdk hv' hkv' g1 g2,by rw[if_pos rfl,hnc];exact bN⟩
end
end Go.Proofs.YtebpkhlifcffnaaGreatDoor.Fs
namespace Go.Proofs.YtebpkhlifcffnaaGreatDoor.Fs
open Go Go.SL
theorem ye:TOk [] []:=⟨List.Pairwise.nil,λ_ h=>(by cases h),λ_ h=>(by cases h),Nat.zero_le _⟩
section
variable{R:List RO}{O O':List Own}{POST:Value->List RO->List Own->Prop}{s d l mb un n files k:Nat}{sp:Nat->Bool}{m:aO Tx MI}{V:DV}{D:DSt}
set_option maxRecDepth 20000 in
theorem GF{name:Tx}(hmg:m.get name=none)(hg:oU name)(ho:D.off=false)(hk:POST (.tuple #[.int .i64 0,.int .i64 9]) R (stO s d l mb un files sp false m V D O)):
 Fun Tryz.prog 28 #[dp s,vs name] R (stO s d l mb un files sp false m V D O) POST:=by
 refine bp<|aC (l:=[_,_]) Tryz.func28 rfl Tryz.ntmps28 rfl (L0:=[(0,_),(1,_)]) rfl ?_
 refine aD<|ar rfl<|ar rfl<|a7<|af rfl<|af rfl ?_
 refine aq rfl<|aj rfl rfl aZ an rfl rfl rfl ?_
 refine wR (m:=m) hmg hg ho ?_
 refine af rfl<|bH rfl<|bH rfl<|aq rfl<|OpW.alloc rfl lA rfl ba rfl rfl ?_;intro b6
 refine aq rfl<|aM rfl iM rfl rfl ba bh rfl rfl ba rfl ?_
 refine ar rfl<|a7<|ab rfl (by exact ak rfl ix rfl rfl) ?_
 refine ab rfl (by exact ax rfl C3 rfl aK (by rfl)) ?_
 refine af rfl<|ar rfl<|ar rfl<|aw<|WC.ret (Ret.two Tryz.results28 rfl rfl ?_)
 exact⟨_,_,hk,bN⟩
set_option maxRecDepth 20000 in
set_option maxHeartbeats 1000000 in
theorem GR(hx:dQ 1∈R)(h:yx R d l un n files k none m sp V D)(hun:60<=un)(hk:CS POST R O s d l mb un n files k none (some (frT [] [])) V D):
 Fun Tryz.prog 8 #[dp s,vs hdM] R (stO s d l mb un files sp false m V D O) POST:=by
 have hht:=h.ht
 have hmg:m.get rfs=none:=by
  cases hg:m.get rfs with
  |none=>rfl
  |some q=>have:=(h.st.has (mo hg)).1;rw[iA] at this;cases this
 have hjn:=ye.join.2.2
 have hfl:=qN (k:=1) (b:=pC [] []) ao
 have e2:(frT [] []).length=(eQ 1 (pC [] [])).length:=rfl
 refine bp<|aC (l:=[_,_]) Tryz.func8 rfl Tryz.ntmps8 rfl (L0:=[(0,_),(1,_)]) rfl ?_
 refine aD<|ar rfl<|aw ?_
 refine aF<|WC.block ?_
 refine aD<|af rfl<|ab rfl (by exact ig rfl Tryz.underlying30 rfl rfl) ?_
 refine ar rfl<|aw<|WC.cond rfl (λhc1=>?_) (λhc1=>?_)
 ·
  cases hc1
 ·
  refine aD<|af rfl ?_
  refine aq rfl<|aj rfl rfl aZ an rfl rfl rfl ?_
  refine wU hx ?_
  refine ab rfl (by exact Rd.not rfl rfl) ?_
  refine ar rfl<|aw<|WC.cond rfl (λhc2=>?_) (λhc2=>?_)
  ·
   cases hc2
  ·
   refine ay<|aA<|aa<|bd<|af rfl ?_
   refine aq rfl<|aj rfl rfl aZ an rfl rfl rfl ?_
   refine GF (m:=m) hmg qa h.st.mnt.cl.off ?_
   refine af rfl<|bH rfl<|bH rfl<|ar rfl<|ar rfl<|a7<|af rfl<|aw<|WC.block ?_
   refine aD<|ab rfl (Rd.eql rfl rfl rfl)<|ar rfl<|aw ?_
   refine aE rfl (λhc3=>?_) (λhc3=>?_)
   ·
    exact absurd hc3 ct
   ·
    refine aD<|ab rfl (Rd.eql rfl rfl rfl)<|ar rfl<|aw ?_
    refine aE rfl (λhc4=>?_) (λhc4=>?_)
    ·
     refine ay<|aA<|aa<|aD<|af rfl<|af rfl<|ab rfl (bO (ps:=[(1,_)]) rfl FY I48 rfl aZ fy (by apply NFo.mk;repeat(first|exact NF.nil|apply NF.cons))) ?_
     refine WL.heap (λw h=>(h.tj (α:=Upd) (enc:=bl)).tj (α:=Ref) (enc:=encR)) ?_
     refine aq rfl<|aj rfl rfl aZ an rfl rfl rfl ?_
     refine rW (t:=[]) (L:=[]) (rv:=.slice none 0 0) (lv:=.slice none 0 0) aK aK ye ?_
     refine aq rfl<|aj rfl rfl aZ an rfl rfl rfl ?_
     refine pB (k:=1) (b:=pC [] []) aK ?_
     refine aq rfl<|aj rfl rfl aZ an rfl rfl rfl ?_
     refine H9 (data:=frT [] []) (h.mono (λ_ hp=>by repeat(first|exact hp|refine List.mem_cons_of_mem _ ?_))) ⟨by show bc _+0<=un;unfold bc;omega,by omega⟩ ?_
     intro V' D' m' sp' off e hdn hdk hv' hkv'
     refine ar rfl<|aw<|WC.ret (Ret.one Tryz.results8 rfl ?_)
     exact⟨_,_,hk V' D' m' sp' off e hdn hdk hv' hkv',bN⟩
    ·
     exact absurd rfl hc4
set_option maxRecDepth 20000 in
theorem o6{r size:Nat}{rv lv:Value}(h1:bL rv)(h2:bL lv)(hO:az r 88 (eF s rv hdM lv size)∈O)(hk:POST (pL rv lv) R O):Fun Tryz.prog 14 #[dp r] R O POST:=by
 refine bp<|aC (l:=[_]) Tryz.func14 rfl Tryz.ntmps14 rfl (L0:=[(0,_)]) rfl ?_
 refine aD<|aq rfl<|OpW.alloc rfl I48 rfl ba rfl rfl ?_;intro b2
 refine aw<|bd<|af rfl<|ab rfl (by exact ig rfl Tryz.underlying34 rfl rfl) ?_
 refine aw<|WC.cond rfl (λhc1=>?_) (λhc1=>?_)
 ·
  cases hc1
 ·
  refine ay<|aa<|aD<|af rfl<|ab rfl (aL rfl rfl)<|ab rfl (by exact ak rfl tO rfl rfl) ?_
  refine ab rfl (by exact bj rfl G48 rfl aK ba rfl) ?_
  refine aq rfl<|aM (h1:=by simp only[List.all_cons,List.all_nil,h1.one,h2.one];rfl) rfl G48 rfl rfl ba bh rfl rfl ba rfl ?_
  refine aw<|WC.ret (lr (b:=b2) Tryz.results14 rfl aK G48 rfl ?_)
  exact⟨_,_,hk,bN⟩
end
end Go.Proofs.YtebpkhlifcffnaaGreatDoor.Fs
namespace Go.Proofs.YtebpkhlifcffnaaGreatDoor.Fs
open Go Go.SL
abbrev ma(x:Int×Int×Int):List Value:=[vi x.1,vi x.2.1,vi x.2.2]
structure SG where
 s:Nat
 l:Nat
 mb:Nat
 sp:Nat->Bool
 m:aO Tx MI
 V:DV
 D:DSt
abbrev sgO(d:Nat)(q:SG)(O:List Own):List Own:=stO q.s d q.l q.mb 109 4 q.sp false q.m q.V q.D O
structure SI(k:Nat)(c:Tx)(q:SG):Prop where
 st:Stt 120 4 (some c) (eB q.m) q.sp q.D
 dk:Dk q.D k
 v:VOk q.V q.D
theorem SI.env{R:List RO}{d k:Nat}{c:Tx}{q:SG}(h:SI k c q)(hm:k<=4294700000)(ht:ea∈R)(h1:gP q.l d ((2+4:Nat):Int) 5∈R)(h2:allM q.m∈R)(h3:SlE (SL.one vi) q.V.kv q.D.keep∈R):yx R d q.l 109 120 4 k (some c) q.m q.sp q.V q.D:=
 ⟨h.st,rfl,⟨by omega,by omega⟩,⟨by omega,by omega⟩,ht,h1,h2,h.dk,hm,h.v,h3⟩
structure RG where
 r:Nat
 rv:Value
 lv:Value
 t:List Ref
 L:List Upd
 c:Tx
structure RI(n:Nat)(at_:List Tx)(g:RG):Prop where
 st:RSt g.c g.t g.L
 at_:ve at_ g.t
 len:g.L.length<=n
 rv:bL g.rv
 lv:bL g.lv
theorem zq: ∀k,k<5->(List.replicate 5 ([]:Tx))[k]! =[]:=by decide
theorem ve.none:ve (List.replicate 5 []) []:=
 ⟨rfl,λk hk=>.inl (zq k hk),λk hk=>by rw[zq k hk];rfl⟩
theorem RI.start{r:Nat}{rv lv:Value}{c:Tx}(hc:RSt c [] [])(h1:bL rv)(h2:bL lv):RI 0 (List.replicate 5 []) ⟨r,rv,lv,[],[],c⟩:=by
 constructor
 ·exact hc
 ·exact ve.none
 ·exact Nat.le_refl 0
 ·exact h1
 ·exact h2
theorem RI.mono{n m:Nat}{at_:List Tx}{g:RG}(h:RI n at_ g)(hm:n<=m):RI m at_ g:=⟨h.st,h.at_,Nat.le_trans h.len hm,h.rv,h.lv⟩
theorem MH(b:Int)(k:Nat):(Value.bool (decide (((land .i64 (b.fdiv (2^k)) 1:Nat):Int)=1)))= .bool (decide (oL b k=true)):=by
 rw[Int.fdiv_eq_ediv_of_nonneg _ (Int.pow_nonneg (show(0:Int)<=2 by decide))]
 unfold oL
 congr 1
 refine decide_eq_decide.2 ?_
 rw[decide_eq_true_iff]
 omega
theorem Pt{bits:Int}{td:Tx}{at_:List Tx}(h:(uTo bits td at_ 5).length≠0):uTo bits td at_ 5≠ []:=λe=>h (by rw[e];rfl)
theorem Aw: ∀k,k<5->jq[k]? =some (nmR k):=by decide
section
variable{bits:Int}{td:Tx}{at_:List Tx}{k:Nat}
theorem L9(h:oL bits k=true/\td≠at_[k]!):uTo bits td at_ (k+1)=uTo bits td at_ k++[(nmR k,at_[k]!,td)]:=by
 show uTo bits td at_ k++_=_
 rw[if_pos h]
theorem O7(h: ¬(oL bits k=true/\td≠at_[k]!)):uTo bits td at_ (k+1)=uTo bits td at_ k:=by
 show uTo bits td at_ k++_=_
 rw[if_neg h,List.append_nil]
theorem ME(h:oL bits k=true/\td≠at_[k]!):nTo bits td at_ (k+1)=(nTo bits td at_ k).set k td:=if_pos h
theorem Pz(h: ¬(oL bits k=true/\td≠at_[k]!)):nTo bits td at_ (k+1)=nTo bits td at_ k:=if_neg h
theorem asked{t:List Ref}(h:ve at_ t)(ht:td.length=32): ∃u nx,u=uTo bits td at_ 5/\nx=nTo bits td at_ 5/\u.length<=5/\(u.length≠0->lW t u)/\ve nx (eZ t u):=
 ⟨_,_,rfl,rfl,EV 5,λhl=>h.ups ht (Pt hl),h.next ht⟩
end
def byR(b:Int):UInt8:=UInt8.ofNat (land .i64 b 255)
theorem l5(b:Int):((byR b).toNat:Int)=IntKind.u8.wrap b:=by
 have h:=Er .i64 b 255
 have h1:(byR b).toNat=land .i64 b 255:=by
  show(UInt8.ofNat _).toNat=_
  rw[UInt8.toNat_ofNat']
  exact Nat.mod_eq_of_lt ao
 rw[h1]
 show(((BitVec.ofInt 64 b).toNat &&& (2^8-1):Nat):Int)=_
 rw[Nat.and_two_pow_sub_one_eq_mod,BitVec.toNat_ofInt]
 simp only[IntKind.wrap,IntKind.signed,IntKind.bits,Bool.false_and,Bool.false_eq_true,if_false]
 omega
theorem ri(b:Int):toR b=[byR b]++List.replicate 31 0:=rfl
end Go.Proofs.YtebpkhlifcffnaaGreatDoor.Fs
namespace Go.Proofs.YtebpkhlifcffnaaGreatDoor
open Go Go.SL Go.Ex
noncomputable def pJ:List (Nat×KF):=[(69,dE Tryz.prog 5 141),(70,jh 5),(46,jl),(127,wc),(86,v8),(283,nn),(282,tp),(161,ke),(177,eO),(168,gH)]
noncomputable def AW:List (Nat×List KQ):=[(75,[.i .i64,.s])]
noncomputable def zz:Fx:={P:=Tryz.prog,G:=λ_=>none,K:=fR pJ,Q:=fR AW,once:=301}
theorem FU:iU (mr zz 100000 308 [] [] h0)=true:=by kernel_rfl
section
variable{R:List RO}{O:List Own}{POST:Value->List RO->List Own->Prop}
theorem HQ(ht:ea∈R)(hr:db∈R)(hg:dQ 1∈R): ∀x∈pJ,kq Tryz.prog R x.1 x.2:=by
 intro x hx
 unfold pJ at hx
 rcases List.mem_cons.1 hx with rfl|hx
 ·exact dq
 rcases List.mem_cons.1 hx with rfl|hx
 ·exact fQ
 rcases List.mem_cons.1 hx with rfl|hx
 ·exact fL
 rcases List.mem_cons.1 hx with rfl|hx
 ·exact k9 ht
 rcases List.mem_cons.1 hx with rfl|hx
 ·exact la hr
 rcases List.mem_cons.1 hx with rfl|hx
 ·exact iH Tryz.func283 an an an an
 rcases List.mem_cons.1 hx with rfl|hx
 ·exact jY Tryz.func282 an an an an
 rcases List.mem_cons.1 hx with rfl|hx
 ·exact fX hg
 rcases List.mem_cons.1 hx with rfl|hx
 ·exact dR hg
 rcases List.mem_cons.1 hx with rfl|hx
 ·exact eT Tryz.func168 an an an an
 cases hx
theorem Kn(ht:ea∈R)(hr:db∈R)(hg:dQ 1∈R):gB zz R where
 q:=QOk.of (jS (P:=Tryz.prog) (l:=AW) an)
 g:=λg cs h=>by cases h
 k:=sy.of (P:=Tryz.prog) (l:=pJ) (HQ ht hr hg) rfl rfl
 mix:=by kernel_rfl
 once:=λ_=>mA
theorem gM(ht:ea∈R)(hr:db∈R)(hg:dQ 1∈R)(hk:POST (.bool true) R O):Fun Tryz.prog 308 #[] R O POST:=jv (Kn ht hr hg) an FU hk
end
end Go.Proofs.YtebpkhlifcffnaaGreatDoor
namespace Go.Proofs.YtebpkhlifcffnaaGreatDoor
open Go Go.SL Go.Ex
noncomputable def qx:List (Nat×KF):=[(69,dE Tryz.prog 5 141),(70,jh 5),(46,jl),(127,wc),(86,v8),(283,nn),(282,tp),(161,ke),(177,eO),(168,gH),(308,ew)]
noncomputable def As:List (Nat×List KQ):=[(75,[.i .i64,.s])]
noncomputable def Bn:Fx:={P:=Tryz.prog,G:=λ_=>none,K:=fR qx,Q:=fR As,once:=301}
theorem G2:iU (mr Bn 100000 275 [] [] h0)=true:=by kernel_rfl
section
variable{R:List RO}{O:List Own}{POST:Value->List RO->List Own->Prop}
theorem Jb(ht:ea∈R)(hr:db∈R)(hg:dQ 1∈R): ∀x∈qx,kq Tryz.prog R x.1 x.2:=by
 intro x hx
 unfold qx at hx
 rcases List.mem_cons.1 hx with rfl|hx
 ·exact dq
 rcases List.mem_cons.1 hx with rfl|hx
 ·exact fQ
 rcases List.mem_cons.1 hx with rfl|hx
 ·exact fL
 rcases List.mem_cons.1 hx with rfl|hx
 ·exact k9 ht
 rcases List.mem_cons.1 hx with rfl|hx
 ·exact la hr
 rcases List.mem_cons.1 hx with rfl|hx
 ·exact iH Tryz.func283 an an an an
 rcases List.mem_cons.1 hx with rfl|hx
 ·exact jY Tryz.func282 an an an an
 rcases List.mem_cons.1 hx with rfl|hx
 ·exact fX hg
 rcases List.mem_cons.1 hx with rfl|hx
 ·exact dR hg
 rcases List.mem_cons.1 hx with rfl|hx
 ·exact eT Tryz.func168 an an an an
 rcases List.mem_cons.1 hx with rfl|hx
 ·exact cq an λO POST hk=>gM ht hr hg hk
 cases hx
theorem Kv(ht:ea∈R)(hr:db∈R)(hg:dQ 1∈R):gB Bn R where
 q:=QOk.of (jS (P:=Tryz.prog) (l:=As) an)
 g:=λg cs h=>by cases h
 k:=sy.of (P:=Tryz.prog) (l:=qx) (Jb ht hr hg) rfl rfl
 mix:=by kernel_rfl
 once:=λ_=>mA
theorem ja(ht:ea∈R)(hr:db∈R)(hg:dQ 1∈R)(hk:POST (.bool true) R O):Fun Tryz.prog 275 #[] R O POST:=jv (Kv ht hr hg) an G2 hk
end
end Go.Proofs.YtebpkhlifcffnaaGreatDoor
namespace Go.Proofs.YtebpkhlifcffnaaGreatDoor
open Go Go.SL Go.Ex
noncomputable def oc:List (Nat×KF):=[(69,dE Tryz.prog 5 141),(70,jh 5),(46,jl),(127,wc),(86,v8),(283,nn),(282,tp),(161,ke),(177,eO),(168,gH),(308,ew),(275,ew)]
noncomputable def wX:List (Nat×List KQ):=[(75,[.i .i64,.s])]
noncomputable def w7:Fx:={P:=Tryz.prog,G:=λ_=>none,K:=fR oc,Q:=fR wX,once:=301}
theorem CF:iU (mr w7 100000 218 [] [] h0)=true:=by kernel_rfl
section
variable{R:List RO}{O:List Own}{POST:Value->List RO->List Own->Prop}
theorem GN(ht:ea∈R)(hr:db∈R)(hg:dQ 1∈R): ∀x∈oc,kq Tryz.prog R x.1 x.2:=by
 intro x hx
 unfold oc at hx
 rcases List.mem_cons.1 hx with rfl|hx
 ·exact dq
 rcases List.mem_cons.1 hx with rfl|hx
 ·exact fQ
 rcases List.mem_cons.1 hx with rfl|hx
 ·exact fL
 rcases List.mem_cons.1 hx with rfl|hx
 ·exact k9 ht
 rcases List.mem_cons.1 hx with rfl|hx
 ·exact la hr
 rcases List.mem_cons.1 hx with rfl|hx
 ·exact iH Tryz.func283 an an an an
 rcases List.mem_cons.1 hx with rfl|hx
 ·exact jY Tryz.func282 an an an an
 rcases List.mem_cons.1 hx with rfl|hx
 ·exact fX hg
 rcases List.mem_cons.1 hx with rfl|hx
 ·exact dR hg
 rcases List.mem_cons.1 hx with rfl|hx
 ·exact eT Tryz.func168 an an an an
 rcases List.mem_cons.1 hx with rfl|hx
 ·exact cq an λO POST hk=>gM ht hr hg hk
 rcases List.mem_cons.1 hx with rfl|hx
 ·exact cq an λO POST hk=>ja ht hr hg hk
 cases hx
theorem FT(ht:ea∈R)(hr:db∈R)(hg:dQ 1∈R):gB w7 R where
 q:=QOk.of (jS (P:=Tryz.prog) (l:=wX) an)
 g:=λg cs h=>by cases h
 k:=sy.of (P:=Tryz.prog) (l:=oc) (GN ht hr hg) rfl rfl
 mix:=by kernel_rfl
 once:=λ_=>mA
theorem jx(ht:ea∈R)(hr:db∈R)(hg:dQ 1∈R)(hk:POST (.bool true) R O):Fun Tryz.prog 218 #[] R O POST:=jv (FT ht hr hg) an CF hk
end
end Go.Proofs.YtebpkhlifcffnaaGreatDoor
namespace Go.Proofs.YtebpkhlifcffnaaGreatDoor
open Go Go.SL Go.Ex
noncomputable def oE:List (Nat×KF):=[(69,dE Tryz.prog 5 141),(70,jh 5),(46,jl),(127,wc),(86,v8),(283,nn),(282,tp),(161,ke),(177,eO),(168,gH),(308,ew),(275,ew),(218,ew)]
noncomputable def xq:List (Nat×List KQ):=[(75,[.i .i64,.s])]
noncomputable def xE:Fx:={P:=Tryz.prog,G:=λ_=>none,K:=fR oE,Q:=fR xq,once:=301}
theorem CQ:iU (mr xE 100000 158 [] [] h0)=true:=by kernel_rfl
section
variable{R:List RO}{O:List Own}{POST:Value->List RO->List Own->Prop}
theorem GX(ht:ea∈R)(hr:db∈R)(hg:dQ 1∈R): ∀x∈oE,kq Tryz.prog R x.1 x.2:=by
 intro x hx
 unfold oE at hx
 rcases List.mem_cons.1 hx with rfl|hx
 ·exact dq
 rcases List.mem_cons.1 hx with rfl|hx
 ·exact fQ
 rcases List.mem_cons.1 hx with rfl|hx
 ·exact fL
 rcases List.mem_cons.1 hx with rfl|hx
 ·exact k9 ht
 rcases List.mem_cons.1 hx with rfl|hx
 ·exact la hr
 rcases List.mem_cons.1 hx with rfl|hx
 ·exact iH Tryz.func283 an an an an
 rcases List.mem_cons.1 hx with rfl|hx
 ·exact jY Tryz.func282 an an an an
 rcases List.mem_cons.1 hx with rfl|hx
 ·exact fX hg
 rcases List.mem_cons.1 hx with rfl|hx
 ·exact dR hg
 rcases List.mem_cons.1 hx with rfl|hx
 ·exact eT Tryz.func168 an an an an
 rcases List.mem_cons.1 hx with rfl|hx
 ·exact cq an λO POST hk=>gM ht hr hg hk
 rcases List.mem_cons.1 hx with rfl|hx
 ·exact cq an λO POST hk=>ja ht hr hg hk
 rcases List.mem_cons.1 hx with rfl|hx
 ·exact cq an λO POST hk=>jx ht hr hg hk
 cases hx
theorem Gn(ht:ea∈R)(hr:db∈R)(hg:dQ 1∈R):gB xE R where
 q:=QOk.of (jS (P:=Tryz.prog) (l:=xq) an)
 g:=λg cs h=>by cases h
 k:=sy.of (P:=Tryz.prog) (l:=oE) (GX ht hr hg) rfl rfl
 mix:=by kernel_rfl
 once:=λ_=>mA
theorem k7(ht:ea∈R)(hr:db∈R)(hg:dQ 1∈R)(hk:POST (.bool true) R O):Fun Tryz.prog 158 #[] R O POST:=jv (Gn ht hr hg) an CQ hk
end
end Go.Proofs.YtebpkhlifcffnaaGreatDoor
namespace Go.Proofs.YtebpkhlifcffnaaGreatDoor
open Go Go.SL Go.Ex
noncomputable def mz:List (Nat×KF):=[(69,dE Tryz.prog 5 141),(70,jh 5),(46,jl),(127,wc),(86,v8),(283,nn),(282,tp),(161,ke),(177,eO),(168,gH),(308,ew),(275,ew),(218,ew),(158,ew)]
noncomputable def vE:List (Nat×List KQ):=[(75,[.i .i64,.s])]
noncomputable def uI:Fx:={P:=Tryz.prog,G:=λ_=>none,K:=fR mz,Q:=fR vE,once:=301}
theorem Ac:iU (mr uI 100000 98 [] [] h0)=true:=by kernel_rfl
section
variable{R:List RO}{O:List Own}{POST:Value->List RO->List Own->Prop}
theorem Dl(ht:ea∈R)(hr:db∈R)(hg:dQ 1∈R): ∀x∈mz,kq Tryz.prog R x.1 x.2:=by
 intro x hx
 unfold mz at hx
 rcases List.mem_cons.1 hx with rfl|hx
 ·exact dq
 rcases List.mem_cons.1 hx with rfl|hx
 ·exact fQ
 rcases List.mem_cons.1 hx with rfl|hx
 ·exact fL
 rcases List.mem_cons.1 hx with rfl|hx
 ·exact k9 ht
 rcases List.mem_cons.1 hx with rfl|hx
 ·exact la hr
 rcases List.mem_cons.1 hx with rfl|hx
 ·exact iH Tryz.func283 an an an an
 rcases List.mem_cons.1 hx with rfl|hx
 ·exact jY Tryz.func282 an an an an
 rcases List.mem_cons.1 hx with rfl|hx
 ·exact fX hg
 rcases List.mem_cons.1 hx with rfl|hx
 ·exact dR hg
 rcases List.mem_cons.1 hx with rfl|hx
 ·exact eT Tryz.func168 an an an an
 rcases List.mem_cons.1 hx with rfl|hx
 ·exact cq an λO POST hk=>gM ht hr hg hk
 rcases List.mem_cons.1 hx with rfl|hx
 ·exact cq an λO POST hk=>ja ht hr hg hk
 rcases List.mem_cons.1 hx with rfl|hx
 ·exact cq an λO POST hk=>jx ht hr hg hk
 rcases List.mem_cons.1 hx with rfl|hx
 ·exact cq an λO POST hk=>k7 ht hr hg hk
 cases hx
theorem Ct(ht:ea∈R)(hr:db∈R)(hg:dQ 1∈R):gB uI R where
 q:=QOk.of (jS (P:=Tryz.prog) (l:=vE) an)
 g:=λg cs h=>by cases h
 k:=sy.of (P:=Tryz.prog) (l:=mz) (Dl ht hr hg) rfl rfl
 mix:=by kernel_rfl
 once:=λ_=>mA
theorem mE(ht:ea∈R)(hr:db∈R)(hg:dQ 1∈R)(hk:POST (.bool true) R O):Fun Tryz.prog 98 #[] R O POST:=jv (Ct ht hr hg) an Ac hk
end
end Go.Proofs.YtebpkhlifcffnaaGreatDoor
namespace Go.Proofs.YtebpkhlifcffnaaGreatDoor
open Go Go.SL Go.Ex
noncomputable def s3:List (Nat×KF):=[(69,dE Tryz.prog 5 141),(70,jh 5),(46,jl),(127,wc),(86,v8),(283,nn),(282,tp),(161,ke),(177,eO),(168,gH),(308,ew),(275,ew),(218,ew),(158,ew),(98,ew)]
noncomputable def E5:List (Nat×List KQ):=[(75,[.i .i64,.s])]
noncomputable def DX:Fx:={P:=Tryz.prog,G:=λ_=>none,K:=fR s3,Q:=fR E5,once:=301}
theorem HZ:iU (mr DX 100000 43 [] [] h0)=true:=by kernel_rfl
section
variable{R:List RO}{O:List Own}{POST:Value->List RO->List Own->Prop}
theorem K0(ht:ea∈R)(hr:db∈R)(hg:dQ 1∈R): ∀x∈s3,kq Tryz.prog R x.1 x.2:=by
 intro x hx
 unfold s3 at hx
 rcases List.mem_cons.1 hx with rfl|hx
 ·exact dq
 rcases List.mem_cons.1 hx with rfl|hx
 ·exact fQ
 rcases List.mem_cons.1 hx with rfl|hx
 ·exact fL
 rcases List.mem_cons.1 hx with rfl|hx
 ·exact k9 ht
 rcases List.mem_cons.1 hx with rfl|hx
 ·exact la hr
 rcases List.mem_cons.1 hx with rfl|hx
 ·exact iH Tryz.func283 an an an an
 rcases List.mem_cons.1 hx with rfl|hx
 ·exact jY Tryz.func282 an an an an
 rcases List.mem_cons.1 hx with rfl|hx
 ·exact fX hg
 rcases List.mem_cons.1 hx with rfl|hx
 ·exact dR hg
 rcases List.mem_cons.1 hx with rfl|hx
 ·exact eT Tryz.func168 an an an an
 rcases List.mem_cons.1 hx with rfl|hx
 ·exact cq an λO POST hk=>gM ht hr hg hk
 rcases List.mem_cons.1 hx with rfl|hx
 ·exact cq an λO POST hk=>ja ht hr hg hk
 rcases List.mem_cons.1 hx with rfl|hx
 ·exact cq an λO POST hk=>jx ht hr hg hk
 rcases List.mem_cons.1 hx with rfl|hx
 ·exact cq an λO POST hk=>k7 ht hr hg hk
 rcases List.mem_cons.1 hx with rfl|hx
 ·exact cq an λO POST hk=>mE ht hr hg hk
 cases hx
theorem KL(ht:ea∈R)(hr:db∈R)(hg:dQ 1∈R):gB DX R where
 q:=QOk.of (jS (P:=Tryz.prog) (l:=E5) an)
 g:=λg cs h=>by cases h
 k:=sy.of (P:=Tryz.prog) (l:=s3) (K0 ht hr hg) rfl rfl
 mix:=by kernel_rfl
 once:=λ_=>mA
theorem xp(ht:ea∈R)(hr:db∈R)(hg:dQ 1∈R)(hk:POST (.bool true) R O):Fun Tryz.prog 43 #[] R O POST:=jv (KL ht hr hg) an HZ hk
end
end Go.Proofs.YtebpkhlifcffnaaGreatDoor
namespace Go.Proofs.YtebpkhlifcffnaaGreatDoor
open Go Go.SL Go.Ex
noncomputable def mJ:List (Nat×KF):=[(69,dE Tryz.prog 5 141),(70,jh 5),(46,jl),(127,wc),(86,v8),(283,nn),(282,tp),(161,ke),(177,eO),(168,gH),(308,ew),(275,ew),(218,ew),(158,ew),(98,ew),(43,ew)]
noncomputable def vn:List (Nat×List KQ):=[(75,[.i .i64,.s])]
noncomputable def uK:Fx:={P:=Tryz.prog,G:=λ_=>none,K:=fR mJ,Q:=fR vn,once:=301}
theorem Ad:iU (mr uK 100000 16 [] [] h0)=true:=by kernel_rfl
section
variable{R:List RO}{O:List Own}{POST:Value->List RO->List Own->Prop}
theorem Cx(ht:ea∈R)(hr:db∈R)(hg:dQ 1∈R): ∀x∈mJ,kq Tryz.prog R x.1 x.2:=by
 intro x hx
 unfold mJ at hx
 rcases List.mem_cons.1 hx with rfl|hx
 ·exact dq
 rcases List.mem_cons.1 hx with rfl|hx
 ·exact fQ
 rcases List.mem_cons.1 hx with rfl|hx
 ·exact fL
 rcases List.mem_cons.1 hx with rfl|hx
 ·exact k9 ht
 rcases List.mem_cons.1 hx with rfl|hx
 ·exact la hr
 rcases List.mem_cons.1 hx with rfl|hx
 ·exact iH Tryz.func283 an an an an
 rcases List.mem_cons.1 hx with rfl|hx
 ·exact jY Tryz.func282 an an an an
 rcases List.mem_cons.1 hx with rfl|hx
 ·exact fX hg
 rcases List.mem_cons.1 hx with rfl|hx
 ·exact dR hg
 rcases List.mem_cons.1 hx with rfl|hx
 ·exact eT Tryz.func168 an an an an
 rcases List.mem_cons.1 hx with rfl|hx
 ·exact cq an λO POST hk=>gM ht hr hg hk
 rcases List.mem_cons.1 hx with rfl|hx
 ·exact cq an λO POST hk=>ja ht hr hg hk
 rcases List.mem_cons.1 hx with rfl|hx
 ·exact cq an λO POST hk=>jx ht hr hg hk
 rcases List.mem_cons.1 hx with rfl|hx
 ·exact cq an λO POST hk=>k7 ht hr hg hk
 rcases List.mem_cons.1 hx with rfl|hx
 ·exact cq an λO POST hk=>mE ht hr hg hk
 rcases List.mem_cons.1 hx with rfl|hx
 ·exact cq an λO POST hk=>xp ht hr hg hk
 cases hx
theorem CW(ht:ea∈R)(hr:db∈R)(hg:dQ 1∈R):gB uK R where
 q:=QOk.of (jS (P:=Tryz.prog) (l:=vn) an)
 g:=λg cs h=>by cases h
 k:=sy.of (P:=Tryz.prog) (l:=mJ) (Cx ht hr hg) rfl rfl
 mix:=by kernel_rfl
 once:=λ_=>mA
theorem yT(ht:ea∈R)(hr:db∈R)(hg:dQ 1∈R)(hk:POST (.bool true) R O):Fun Tryz.prog 16 #[] R O POST:=jv (CW ht hr hg) an Ad hk
end
end Go.Proofs.YtebpkhlifcffnaaGreatDoor
namespace Go.Proofs.YtebpkhlifcffnaaGreatDoor
open Go Go.SL Go.Ex
noncomputable def oz:List (Nat×KF):=[(69,dE Tryz.prog 5 141),(70,jh 5),(46,jl),(127,wc),(86,v8),(283,nn),(282,tp),(161,ke),(177,eO),(168,gH),(308,ew),(275,ew),(218,ew),(158,ew),(98,ew),(43,ew),(16,ew)]
noncomputable def wG:List (Nat×List KQ):=[(75,[.i .i64,.s])]
noncomputable def wE:Fx:={P:=Tryz.prog,G:=λ_=>none,K:=fR oz,Q:=fR wG,once:=301}
theorem BP:iU (mr wE 100000 4 [] [] h0)=true:=by kernel_rfl
section
variable{R:List RO}{O:List Own}{POST:Value->List RO->List Own->Prop}
theorem Ga(ht:ea∈R)(hr:db∈R)(hg:dQ 1∈R): ∀x∈oz,kq Tryz.prog R x.1 x.2:=by
 intro x hx
 unfold oz at hx
 rcases List.mem_cons.1 hx with rfl|hx
 ·exact dq
 rcases List.mem_cons.1 hx with rfl|hx
 ·exact fQ
 rcases List.mem_cons.1 hx with rfl|hx
 ·exact fL
 rcases List.mem_cons.1 hx with rfl|hx
 ·exact k9 ht
 rcases List.mem_cons.1 hx with rfl|hx
 ·exact la hr
 rcases List.mem_cons.1 hx with rfl|hx
 ·exact iH Tryz.func283 an an an an
 rcases List.mem_cons.1 hx with rfl|hx
 ·exact jY Tryz.func282 an an an an
 rcases List.mem_cons.1 hx with rfl|hx
 ·exact fX hg
 rcases List.mem_cons.1 hx with rfl|hx
 ·exact dR hg
 rcases List.mem_cons.1 hx with rfl|hx
 ·exact eT Tryz.func168 an an an an
 rcases List.mem_cons.1 hx with rfl|hx
 ·exact cq an λO POST hk=>gM ht hr hg hk
 rcases List.mem_cons.1 hx with rfl|hx
 ·exact cq an λO POST hk=>ja ht hr hg hk
 rcases List.mem_cons.1 hx with rfl|hx
 ·exact cq an λO POST hk=>jx ht hr hg hk
 rcases List.mem_cons.1 hx with rfl|hx
 ·exact cq an λO POST hk=>k7 ht hr hg hk
 rcases List.mem_cons.1 hx with rfl|hx
 ·exact cq an λO POST hk=>mE ht hr hg hk
 rcases List.mem_cons.1 hx with rfl|hx
 ·exact cq an λO POST hk=>xp ht hr hg hk
 rcases List.mem_cons.1 hx with rfl|hx
 ·exact cq an λO POST hk=>yT ht hr hg hk
 cases hx
theorem F6(ht:ea∈R)(hr:db∈R)(hg:dQ 1∈R):gB wE R where
 q:=QOk.of (jS (P:=Tryz.prog) (l:=wG) an)
 g:=λg cs h=>by cases h
 k:=sy.of (P:=Tryz.prog) (l:=oz) (Ga ht hr hg) rfl rfl
 mix:=by kernel_rfl
 once:=λ_=>mA
theorem zH(ht:ea∈R)(hr:db∈R)(hg:dQ 1∈R)(hk:POST (.bool true) R O):Fun Tryz.prog 4 #[] R O POST:=jv (F6 ht hr hg) an BP hk
end
end Go.Proofs.YtebpkhlifcffnaaGreatDoor
namespace Go.Proofs.YtebpkhlifcffnaaGreatDoor.Fs
open Go Go.SL
section
variable{R:List RO}{O:List Own}{POST:Value->List RO->List Own->Prop}
set_option maxRecDepth 20000 in
set_option maxHeartbeats 16000000 in
theorem wi{L:List (Int×Int×Int)}{keep:List Int}{lv kv:Value}(ht:ea∈R)(hr:db∈R)(hM:dQ 1∈R)(hL:SlE ma lv L∈R)(hke:SlE (SL.one vi) kv keep∈R)(hkl:keep.length<=17592186043904)(hk:POST (.bool true) R O):
 Fun Tryz.prog 3 #[lv,kv] R O POST:=by
 obtain⟨E,hE⟩: ∃E,E=(cF (re 120) (jw 120 4)).1:=⟨_,rfl⟩
 obtain⟨on0,k0,hm0,hl0,kE,hkE⟩:=Sg (n:=120) (files:=4) hE ao ao ao
 have hop:=QX hm0 ao ao
 have hS0:Stt 120 4 none (λ_=>none) jQ E:=⟨hm0,λb=>by unfold cfR;split<;>rfl,by decide +kernel⟩
 refine bp<|aC (l:=[_,_]) Tryz.func3 rfl Tryz.ntmps3 rfl (L0:=[(0,_),(1,_)]) rfl ?_
 refine aD<|ar rfl<|aw<|bd ?_
 refine aq rfl<|aj rfl rfl aZ an rfl rfl rfl ?_
 refine zH ht hr hM ?_
 refine aU 23 (u:=.bool (decide True)) rfl (by simp) ?_
 refine ab rfl (by exact iS rfl rfl) ?_
 refine aw<|aE rfl (λhc1=>?_) (λhc1=>?_)
 ·
  exact absurd trivial hc1
 ·
  refine ay<|aa<|aD<|aq rfl<|aj rfl rfl aZ an rfl rfl rfl ?_
  refine J0 (λh=>by exfalso;omega) (λn hn _ _ d V hv=>?_);obtain rfl:n=120:=by omega
  refine af rfl<|bH rfl<|bH rfl<|ar rfl<|ar rfl<|aw<|bd<|af rfl<|aq rfl<|aj rfl rfl aZ an rfl rfl rfl ?_
  refine Fun.heap (O':=dO d V (re 120) O) bN ?_
  refine Be (n:=120) (files:=4) on0 ao ao k0 ao hv aK ?_;rw[←hE];intro V1 hv1 hkv1
  refine ab rfl (Rd.neq rfl rfl rfl)<|aw<|aE rfl (λhc2=>?_) (λhc2=>?_)
  ·
   exact absurd rfl hc2
  ·
   refine ay<|aa<|aD<|af rfl ?_
   refine aq rfl<|aj rfl rfl aZ an rfl rfl rfl ?_
   refine Fun.heap (O':=dO d V1 E O) bN ?_
   refine uu (n:=120) (files:=4) (F:=λ_=>none) (sp:=jQ) aK (Q9 hm0 ao) hm0.cl.len (by rw[hop]) (by rw[hop];exact hm0) ao ao kE ao hv1 (by rw[hkE,hkv1];exact aK) ?_
   rw[hop]
   intro V2 s l mb m hfm hv2 hkv2
   have e2k:SlE (SL.one vi) V2.kv E.keep=SlE (SL.one vi) V.kv []:=by rw[hkE,hkv2,hkv1]
   refine af rfl<|bH rfl<|bH rfl<|ar rfl<|ar rfl<|aw<|bd<|af rfl<|ab rfl (Rd.neq rfl rfl rfl)<|af rfl<|WL.case 39 rfl (λhg39=>?_) (λhg39=>?_)
   ·
    exact absurd rfl hg39
   ·
    refine aT rfl (al rfl rfl)<|WL.c4 rfl rfl rfl rfl<|aj rfl rfl aZ an rfl rfl rfl ?_
    refine Fun.heap (R':=SlE (SL.one vi) V2.kv E.keep::allM m::gP l d ((2+4:Nat):Int) 5::R) (λw h=>by rw[e2k];exact dj h) ?_
    refine GR (d:=d) (l:=l) (un:=109) (n:=120) (files:=4) (k:=4+4) aK ⟨by rw[hfm];exact hS0,rfl,⟨by omega,by omega⟩,⟨by omega,by omega⟩,aK,aK,aK,kE,by omega,hv2,aK⟩ ao ?_
    intro V4 D4 m4 sp4 off4 e4 hdn4 hdk4 hv4 hkv4
    obtain⟨r1,r2,r3,r4⟩:=hdn4.res.resolve_right (λh=>absurd hl0 h.1)
    subst r1 r2
    obtain⟨c0,hc0⟩: ∃c0,c0=frT [] []:=⟨_,rfl⟩
    rw[←hc0] at r3
    have hr0:RSt c0 [] []:=by rw[hc0];exact RSt.all ye
    have e4k:SlE (SL.one vi) V4.kv D4.keep=SlE (SL.one vi) V2.kv E.keep:=by rw[hkv4,hdn4.keep]
    have hS4:SI 6000 c0 ⟨s,l,mb,sp4,m4,V4,D4⟩:=⟨r3,hdk4.mono ao,hv4⟩
    refine aT rfl (Rd.neq rfl rfl rfl)<|ab rfl (aQ rfl rfl rfl)<|aw<|aE rfl (λhc3=>?_) (λhc3=>?_)
    ·
     exact absurd rfl hc3
    ·
     refine ay<|aa<|aD<|af rfl ?_
     refine aq rfl<|aj rfl rfl aZ an rfl rfl rfl ?_
     refine Fun.heap (R':=SlE (SL.one vi) V4.kv D4.keep::allM m4::gP l d ((2+4:Nat):Int) 5::R) (λw h=>by rw[e4k];exact dj h) ?_
     refine wV (t:=[]) (L:=[]) (c:=c0) aK (hS4.env (d:=d) ao aK aK aK aK) hr0 ?_
     intro r5 rv5 lv5 g5 h5
     refine af rfl<|bH rfl<|bH rfl<|ar rfl<|ar rfl<|aw<|bd<|af rfl<|ab rfl (Rd.neq rfl rfl rfl)<|aw<|aE rfl (λhc4=>?_) (λhc4=>?_)
     ·
      exact absurd rfl hc4
     ·
      refine ay<|aa<|aD<|aq rfl<|aX (ps:=[(0,_),(1,_),(2,_),(3,_),(4,_)]) rfl S37 aZ rfl rfl fy an rfl rfl rfl ?_;intro b51
      refine WL.heap (λw h=>Sat.gC (b:=b51) (enc:=SL.one vs) (xs:=jq) bh rfl rfl (show(5:Nat)<=9223372036854775807 by decide) h) ?_
      refine ar rfl<|a7<|aq rfl<|kc (z0:=vs []) (m:=5) (c:=5) rfl S37 rfl rfl rfl rfl rfl ct ct ct rfl rfl ?_;intro b52
      refine WL.heap (λw h=>Sat.gC (b:=b52) (enc:=SL.one vs) (xs:=List.replicate 5 []) bh rfl rfl (show(5:Nat)<=9223372036854775807 by decide) h) ?_
      refine ar rfl<|a7<|ar rfl<|aw<|aF<|aF ?_
      have hI4:RI 0 (List.replicate 5 []) ⟨r5,rv5,lv5,[],[],c0⟩:=RI.start hr0 g5 h5
      obtain⟨av5,hav5⟩: ∃av5,av5=Value.slice (some ⟨b52,0,none⟩) 5 5:=⟨_,rfl⟩
      obtain⟨allv,hallv⟩: ∃allv,allv=Value.slice (some ⟨b51,0,none⟩) 5 5:=⟨_,rfl⟩
      rw[←hav5,←hallv,show Value.slice (some ⟨b52,0,none⟩) (List.replicate 5 ([]:Tx)).length (List.replicate 5 ([]:Tx)).length=av5 by rw[hav5];rfl,show Value.slice (some ⟨b51,0,none⟩) jq.length jq.length=allv by rw[hallv];rfl]
      refine aB<|ar rfl<|aw<|WC.block ?_
      refine WC.pick [9,11,12,13,0,1,5,10] eS ?_
      refine xQ 4 (λ(i:Nat) (q:SG) (g:RG) (av:Value) (at_:List Tx)=>[(9,dp g.r),(11,av),(12,.int .i64 (g.L.length:Int)),(13,.int .i64 (i:Int))]) (λ(i:Nat) (q:SG) (g:RG) (av:Value) (at_:List Tx)=>SlE (SL.one vs) av at_::SlE encR g.rv g.t::SlE bl g.lv g.L::allM q.m::gP q.l d ((2+4:Nat):Int) 5::SlE (SL.one vi) q.V.kv q.D.keep::SlE (SL.one vs) allv jq::R) (λ(i:Nat) (q:SG) (g:RG) (av:Value) (at_:List Tx)=>az g.r 88 (eF q.s g.rv hdM g.lv g.c.length)::sgO d q O) (λ(i:Nat) (q:SG) (g:RG) (av:Value) (at_:List Tx)=>i<=24/\i<=L.length/\SI (6000*i+6000) g.c q/\RI (5*i) at_ g/\q.D.left=0) (λ(i:Nat) (q:SG) (g:RG) (av:Value) (at_:List Tx)=>24-i) (0) (⟨s,l,mb,sp4,m4,V4,D4⟩) (⟨r5,rv5,lv5,[],[],c0⟩) (av5) (List.replicate 5 []) iw ?hinv1 cC bN ?_
      case hinv1=>
       exact⟨Nat.zero_le _,Nat.zero_le _,hS4,hI4,r4 hl0⟩
      intro i q g av at_
      rintro⟨i1,i2,iQ,iR,iql⟩
      refine bd<|af rfl<|af rfl<|ab rfl (bu (enc:=ma) (xs:=L) rfl rfl Tryz.underlying22 aK) ?_
      refine ab rfl (Rd.lss rfl rfl rfl)<|af rfl<|WL.case 57 rfl (λhg57=>?_) (λhg57=>?_)
      ·
       refine aT rfl (al rfl rfl)<|aT rfl (Rd.lss rfl rfl rfl)<|ab rfl (aY rfl rfl rfl)<|aw<|aE rfl (λhc5=>?_) (λhc5=>?_)
       ·
        have hi24:i<24:=by omega
        have hil:i<L.length:=by omega
        obtain⟨x,hxe⟩: ∃x,x=L[i]! :=⟨_,rfl⟩
        have hxg:L[i]? =some x:=by rw[hxe];exact get!_of_lt hil
        obtain⟨k,hkk⟩: ∃k,k=6000*i+6000:=⟨_,rfl⟩
        rw[←hkk] at iQ
        have hkb:k<=200000:=by omega
        have hlen:=iR.len
        have hal:=iR.at_.len
        obtain⟨td,htd⟩: ∃td,td=toR x.2.1:=⟨_,rfl⟩
        have htl:td.length=32:=by rw[htd];exact Mn _
        refine ay<|aa<|aF<|WC.block ?_
        refine aD<|aq rfl<|aX (ps:=[]) rfl S37 aZ rfl rfl fy an rfl rfl rfl ?_;intro b63
        refine WL.heap (λw h=>Sat.lz (α:=Tx) (b:=b63) (enc:=SL.one vs) (xs:=[]) bh rfl rfl (λ_=>rfl) (Nat.zero_le _) h) ?_
        refine af rfl<|aq rfl<|c7 (enc:=SL.one vs) (ys:=at_) (xs:=[]) rfl S37 Tryz.underlying37 rfl rfl bh aK ie ie (by exact⟨by simp only[maxLen,List.length_append,List.length_nil,List.length_cons,List.length_drop,List.length_take,List.length_map];omega,by(simp only[List.length_append,List.length_nil,List.length_cons,List.length_drop,List.length_take,List.length_map];omega)⟩) rfl rfl ?_;intro v65 hv65
        rw[List.nil_append]
        refine ar rfl<|a7<|ar rfl<|aw<|aF<|aF<|WC.heap (λw h=>Sat.dH (e:=43) (size:=3) (enc:=bl) h) ?_
        refine aB<|ar rfl<|aw<|WC.block ?_
        refine WC.pick [15,16,0,1,5,9,10,11,12,13,14] eS ?_
        refine WC.ia 2 (λ(j:Nat) (uv:Value)=>[(15,uv),(16,.int .i64 (j:Int))]) (λ(j:Nat) (uv:Value)=>bt 43 3 bl uv (uTo x.1 td at_ j)::bt 9 1 (SL.one vs) v65 (nTo x.1 td at_ j)::az g.r 88 (eF q.s g.rv hdM g.lv g.c.length)::sgO d q O) (λ(j:Nat) (uv:Value)=>j<=5/\bL uv) (λ(j:Nat) (uv:Value)=>5-j) (0) (.slice none 0 0) iw ?hinv2 cC (λw h=>by rw[show nTo x.1 td at_ 0=at_ from rfl,show uTo x.1 td at_ 0=[] from rfl];exact dj h) ?_
        case hinv2=>
         exact⟨Nat.zero_le _,bL.sl⟩
        intro j uv
        rintro⟨j1,j2⟩
        refine bd<|af rfl<|ab rfl (Rd.lss rfl rfl rfl)<|aw ?_
        refine aE rfl (λhc6=>?_) (λhc6=>?_)
        ·
         have hj:j<5:=by omega
         have hul:=EV (bits:=x.1) (td:=td) (at_:=at_) j
         have hnl:=yK (bits:=x.1) (td:=td) (at_:=at_) j
         refine ay<|aa<|aF<|WC.block ?_
         refine WC.cut (α:=Unit) (λ_=>[(0,lv),(1,kv),(5,dp d),(9,dp g.r),(10,allv),(11,av),(12,.int .i64 (g.L.length:Int)),(13,.int .i64 (i:Int)),(14,v65),(15,uv),(16,.int .i64 (j:Int)),(17,vs td)]) (λ_=>SlE (SL.one vs) av at_::SlE encR g.rv g.t::SlE bl g.lv g.L::allM q.m::gP q.l d ((2+4:Nat):Int) 5::SlE (SL.one vi) q.V.kv q.D.keep::SlE (SL.one vs) allv jq::R) (λ_=>bt 43 3 bl uv (uTo x.1 td at_ j)::bt 9 1 (SL.one vs) v65 (nTo x.1 td at_ j)::az g.r 88 (eF q.s g.rv hdM g.lv g.c.length)::sgO d q O) (λ_=>True) ?_ ?_
         ·
          refine WC.drawn (O) 12 rfl mixed ?_
          refine ae 0 rfl an aN rfl rfl rfl (al rfl rfl) ?_
          refine ae 1 rfl an aN rfl rfl rfl (al rfl rfl) ?_
          refine ae 2 rfl an aN rfl rfl rfl (dy (k:=i) rfl S22 rfl rfl rfl (enc:=ma) (xs:=L) aK hil) ?_
          refine ae 3 rfl an aN rfl rfl rfl ((by exact kb rfl QJ rfl aK ao)) ?_
          refine ae 4 rfl an aN rfl rfl rfl (oK (enc:=ma) (size:=3) (xs:=L) (k:=i) (f:=1) (a:=x) (u:=vi x.2.1) rfl C3 rfl aK (λ_=>rfl) rfl hxg rfl) ?_
          refine ae 5 rfl an aN rfl rfl rfl ((by exact cX rfl rfl Tryz.underlying5 (hS:=Tryz.underlying3))) ?_
          refine WD.two 6 8 rfl rfl an rfl rfl ?_ ?_
          ·
           refine aX (ps:=[(0,_)]) rfl S41 aZ rfl rfl fy an rfl rfl rfl ?_;intro b76
           refine⟨aN,?_⟩
           refine WD.two 7 8 rfl rfl an rfl rfl ?_ ?_
           ·
            refine OpW.rd rfl rfl (bY (bs:=[byR x.2.1]) rfl Tryz.underlying41 Tryz.underlying9 Tryz.underlying5 rfl aK (by rw[←l5];rfl) rfl ct) ?_
            refine⟨aN,?_⟩
            refine aS 8 rfl an rfl ?_
            refine n4 (m:=31) (c:=31) rfl S41 rfl rfl rfl rfl ct ct ct rfl rfl ?_;intro b78
            refine⟨aN,?_⟩
            refine aS 9 rfl an rfl ?_
            refine OpW.rd rfl rfl (bY (bs:=List.replicate 31 0) rfl Tryz.underlying41 Tryz.underlying9 Tryz.underlying5 rfl aK rfl rfl ct) ?_
            refine⟨aN,?_⟩
            refine ae 10 rfl an aN rfl rfl rfl (cA rfl rfl rfl (by simp)) ?_
            refine WD.say 80 (u:=vs td) rfl (by rw[htd,ri]) ?_
            refine ae 11 rfl an aN rfl rfl rfl (Rd.assign rfl rfl) ?_
            refine WD.done an ?_
            exact⟨(),trivial,cC,bN⟩
           ·
            refine n4 (m:=31) (c:=31) rfl S41 rfl rfl rfl rfl ct ct ct rfl rfl ?_;intro b78
            refine⟨aN,?_⟩
            refine WD.two 7 9 rfl rfl an rfl rfl ?_ ?_
            ·
             refine OpW.rd rfl rfl (bY (bs:=[byR x.2.1]) rfl Tryz.underlying41 Tryz.underlying9 Tryz.underlying5 rfl aK (by rw[←l5];rfl) rfl ct) ?_
             refine⟨aN,?_⟩
             refine aS 9 rfl an rfl ?_
             refine OpW.rd rfl rfl (bY (bs:=List.replicate 31 0) rfl Tryz.underlying41 Tryz.underlying9 Tryz.underlying5 rfl aK rfl rfl ct) ?_
             refine⟨aN,?_⟩
             refine ae 10 rfl an aN rfl rfl rfl (cA rfl rfl rfl (by simp)) ?_
             refine WD.say 80 (u:=vs td) rfl (by rw[htd,ri]) ?_
             refine ae 11 rfl an aN rfl rfl rfl (Rd.assign rfl rfl) ?_
             refine WD.done an ?_
             exact⟨(),trivial,cC,bN⟩
            ·
             refine OpW.rd rfl rfl (bY (bs:=List.replicate 31 0) rfl Tryz.underlying41 Tryz.underlying9 Tryz.underlying5 rfl aK rfl rfl ct) ?_
             refine⟨aN,?_⟩
             refine aS 7 rfl an rfl ?_
             refine OpW.rd rfl rfl (bY (bs:=[byR x.2.1]) rfl Tryz.underlying41 Tryz.underlying9 Tryz.underlying5 rfl aK (by rw[←l5];rfl) rfl ct) ?_
             refine⟨aN,?_⟩
             refine ae 10 rfl an aN rfl rfl rfl (cA rfl rfl rfl (by simp)) ?_
             refine WD.say 80 (u:=vs td) rfl (by rw[htd,ri]) ?_
             refine ae 11 rfl an aN rfl rfl rfl (Rd.assign rfl rfl) ?_
             refine WD.done an ?_
             exact⟨(),trivial,cC,bN⟩
          ·
           refine n4 (m:=31) (c:=31) rfl S41 rfl rfl rfl rfl ct ct ct rfl rfl ?_;intro b78
           refine⟨aN,?_⟩
           refine WD.two 6 9 rfl rfl an rfl rfl ?_ ?_
           ·
            refine aX (ps:=[(0,_)]) rfl S41 aZ rfl rfl fy an rfl rfl rfl ?_;intro b76
            refine⟨aN,?_⟩
            refine WD.two 7 9 rfl rfl an rfl rfl ?_ ?_
            ·
             refine OpW.rd rfl rfl (bY (bs:=[byR x.2.1]) rfl Tryz.underlying41 Tryz.underlying9 Tryz.underlying5 rfl aK (by rw[←l5];rfl) rfl ct) ?_
             refine⟨aN,?_⟩
             refine aS 9 rfl an rfl ?_
             refine OpW.rd rfl rfl (bY (bs:=List.replicate 31 0) rfl Tryz.underlying41 Tryz.underlying9 Tryz.underlying5 rfl aK rfl rfl ct) ?_
             refine⟨aN,?_⟩
             refine ae 10 rfl an aN rfl rfl rfl (cA rfl rfl rfl (by simp)) ?_
             refine WD.say 80 (u:=vs td) rfl (by rw[htd,ri]) ?_
             refine ae 11 rfl an aN rfl rfl rfl (Rd.assign rfl rfl) ?_
             refine WD.done an ?_
             exact⟨(),trivial,cC,bN⟩
            ·
             refine OpW.rd rfl rfl (bY (bs:=List.replicate 31 0) rfl Tryz.underlying41 Tryz.underlying9 Tryz.underlying5 rfl aK rfl rfl ct) ?_
             refine⟨aN,?_⟩
             refine aS 7 rfl an rfl ?_
             refine OpW.rd rfl rfl (bY (bs:=[byR x.2.1]) rfl Tryz.underlying41 Tryz.underlying9 Tryz.underlying5 rfl aK (by rw[←l5];rfl) rfl ct) ?_
             refine⟨aN,?_⟩
             refine ae 10 rfl an aN rfl rfl rfl (cA rfl rfl rfl (by simp)) ?_
             refine WD.say 80 (u:=vs td) rfl (by rw[htd,ri]) ?_
             refine ae 11 rfl an aN rfl rfl rfl (Rd.assign rfl rfl) ?_
             refine WD.done an ?_
             exact⟨(),trivial,cC,bN⟩
           ·
            refine OpW.rd rfl rfl (bY (bs:=List.replicate 31 0) rfl Tryz.underlying41 Tryz.underlying9 Tryz.underlying5 rfl aK rfl rfl ct) ?_
            refine⟨aN,?_⟩
            refine aS 6 rfl an rfl ?_
            refine aX (ps:=[(0,_)]) rfl S41 aZ rfl rfl fy an rfl rfl rfl ?_;intro b76
            refine⟨aN,?_⟩
            refine aS 7 rfl an rfl ?_
            refine OpW.rd rfl rfl (bY (bs:=[byR x.2.1]) rfl Tryz.underlying41 Tryz.underlying9 Tryz.underlying5 rfl aK (by rw[←l5];rfl) rfl ct) ?_
            refine⟨aN,?_⟩
            refine ae 10 rfl an aN rfl rfl rfl (cA rfl rfl rfl (by simp)) ?_
            refine WD.say 80 (u:=vs td) rfl (by rw[htd,ri]) ?_
            refine ae 11 rfl an aN rfl rfl rfl (Rd.assign rfl rfl) ?_
            refine WD.done an ?_
            exact⟨(),trivial,cC,bN⟩
         ·
          rintro⟨⟩ -
          refine WC.pick [0,1,5,9,10,11,12,13,14,15,16,17] eS ?_
          refine WC.val 97 (.bool (decide (oL x.1 j=true/\td≠at_[j]!))) ?_ ?_
          ·
           refine aB<|af rfl<|af rfl<|ab rfl (dy (k:=i) rfl S22 rfl rfl rfl (enc:=ma) (xs:=L) aK hil) ?_
           refine ab rfl (by exact kb rfl Rb rfl aK ao) ?_
           refine ab rfl (oK (enc:=ma) (size:=3) (xs:=L) (k:=i) (f:=0) (a:=x) (u:=vi x.1) rfl C3 rfl aK (λ_=>rfl) rfl hxg rfl) ?_
           refine af rfl<|ab rfl (zg (n:=j) rfl rfl rfl rfl (show j<=64 by omega)) ?_
           refine ab rfl (zd (m:=1) rfl rfl rfl rfl ct) ?_
           refine ab rfl (Rd.eql rfl rfl rfl)<|aU 89 (u:=.bool (decide (oL x.1 j=true))) rfl (MH x.1 j) ?_
           refine af rfl<|WL.case 90 rfl (λhg90=>?_) (λhg90=>?_)
           ·
            refine aT rfl (al rfl rfl)<|aT rfl (al rfl rfl)<|aT rfl (al rfl rfl)<|aT rfl (c9 (enc:=SL.one vs) (xs:=at_) (k:=j) rfl S37 rfl rfl rfl aK ao) ?_
            refine aT rfl (Rd.get (g:=vs) (xs:=at_) (k:=j) (a:=at_[j]!) rfl C9 rfl aK (get!_of_lt ao)) ?_
            refine aT rfl (fA rfl rfl rfl)<|ab rfl (aY rfl rfl rfl)<|aG ?_
            exact⟨by repeat(first|exact Sub.nil|refine Sub.cons rfl (by first|rfl|(exact vb ⟨λh=>⟨hg90,h⟩,And.right⟩)) ?_),by exact(λ_ h=>h.thin (cB.mem cz))⟩
           ·
            refine aW rfl<|aW rfl<|aW rfl<|aW rfl<|aW rfl<|aW rfl<|ab rfl (aQ rfl rfl rfl)<|aG ?_
            exact⟨by repeat(first|exact Sub.nil|refine Sub.cons rfl (by first|rfl|(exact GP (λh=>hg90 h.1))) ?_),by exact(λ_ h=>h.thin (cB.mem cz))⟩
          ·
           refine aE rfl (λhc7=>?_) (λhc7=>?_)
           ·
            refine aF<|WC.drawn (O) 14 rfl mixed ?_
            refine ae 0 rfl an aN rfl rfl rfl (al rfl rfl) ?_
            refine ae 1 rfl an aN rfl rfl rfl (al rfl rfl) ?_
            refine ae 2 rfl an aN rfl rfl rfl (al rfl rfl) ?_
            refine ae 3 rfl an aN rfl rfl rfl (c9 (enc:=SL.one vs) (xs:=jq) (k:=j) rfl S37 rfl rfl rfl aK (show j<5 by omega)) ?_
            refine ae 4 rfl an aN rfl rfl rfl (Rd.get (g:=vs) (xs:=jq) (k:=j) (a:=nmR j) rfl C9 rfl aK (Aw j hj)) ?_
            refine ae 5 rfl an aN rfl rfl rfl (al rfl rfl) ?_
            refine ae 6 rfl an aN rfl rfl rfl (al rfl rfl) ?_
            refine ae 7 rfl an aN rfl rfl rfl (c9 (enc:=SL.one vs) (xs:=at_) (k:=j) rfl S37 rfl rfl rfl aK ao) ?_
            refine ae 8 rfl an aN rfl rfl rfl (Rd.get (g:=vs) (xs:=at_) (k:=j) (a:=at_[j]!) rfl C9 rfl aK (get!_of_lt ao)) ?_
            refine ae 9 rfl an aN rfl rfl rfl (al rfl rfl) ?_
            refine ae 10 rfl an aN rfl rfl rfl (bO (ps:=[(0,_),(1,_),(2,_)]) rfl Ps I43 rfl aZ fy (by apply NFo.mk;repeat(first|exact NF.nil|apply NF.cons))) ?_
            refine aS 11 rfl an rfl ?_
            refine aX (ps:=[(0,_)]) rfl S38 aZ rfl rfl fy an rfl rfl rfl ?_;intro b109
            refine⟨aN,?_⟩
            refine aS 12 rfl an rfl ?_
            refine bR (enc:=bl) rfl S38 rfl rfl bh bh [(nmR j,at_[j]!,td)] rfl (by rfl) rfl ie ie (by exact⟨by simp only[maxLen,List.length_append,List.length_nil,List.length_cons,List.length_drop,List.length_take,List.length_map];omega,by omega⟩) rfl rfl ?_;intro v110 hv110
            refine⟨aN,?_⟩
            refine ae 13 rfl an aN rfl rfl rfl (Rd.assign rfl rfl) ?_
            refine WD.done an ?_
            refine aa<|aB<|af rfl<|af rfl<|af rfl<|ab rfl (kT (enc:=SL.one vs) (xs:=nTo x.1 td at_ j) (k:=j) rfl S37 rfl rfl rfl aK ao) ?_
            refine aq rfl<|j0 (g:=vs) (k:=j) (a:=td) rfl Z9 rfl rfl rfl rfl bh ao rfl ?_
            refine aG<|aA<|aa<|aB<|af rfl<|ab rfl (Rd.add rfl rfl rfl ao) ?_
            exact ar rfl<|aG<|bC.mk (j+1) v110 ⟨by omega,hv110⟩ ao cC (by rw[L9 hc7,ME hc7];exact bN)
           ·
            refine ay<|aA<|aa<|aB<|af rfl<|ab rfl (Rd.add rfl rfl rfl ao) ?_
            exact ar rfl<|aG<|bC.mk (j+1) uv ⟨by omega,j2⟩ ao cC (by rw[O7 hc7,Pz hc7];exact bN)
        ·
         obtain rfl:j=5:=by omega
         obtain⟨u,nx,hu,hnx,hul,hup0,hnat⟩:=asked (bits:=x.1) iR.at_ htl
         rw[←hu,←hnx]
         refine WC.heap (λw h=>Sat.eE (xs:=u) (v:=uv) (enc:=bl) bh h) ?_
         refine WC.heap (λw h=>Sat.eE (xs:=nx) (v:=v65) (enc:=SL.one vs) bh h) ?_
         refine WC.exit<|au.exit<|bC.exit<|aH.exit<|aa<|bd<|af rfl<|ab rfl (bu (enc:=bl) (xs:=u) rfl rfl Tryz.underlying38 aK) ?_
         refine ab rfl (Rd.eql rfl rfl rfl)<|aw<|aE rfl (λhc8=>?_) (λhc8=>?_)
         ·
          refine WC.exit<|au.exit<|aH.exit<|aa<|aB<|af rfl<|ab rfl (Rd.add rfl rfl rfl ao) ?_
          exact ar rfl<|aG<|jH.mk (i+1) q g av at_ ⟨by omega,by omega,⟨iQ.st,iQ.dk.mono ao,iQ.v⟩,iR.mono ao,iql⟩ ao cC bN
         ·
          have hup:lW g.t u:=hup0 ao
          have hune:u.length≠0:=by omega
          have hln:(g.L++u).length=g.L.length+u.length:=List.length_append
          refine ay<|aa<|WC.cut (α:=DV×DSt) (λ_=>[(0,lv),(1,kv),(5,dp d),(9,dp g.r),(10,allv),(11,av),(12,.int .i64 (g.L.length:Int)),(13,.int .i64 (i:Int)),(14,v65),(15,uv)]) (λy=>SlE (SL.one vi) y.1.kv y.2.keep::SlE bl uv u::SlE (SL.one vs) v65 nx::SlE (SL.one vs) av at_::SlE encR g.rv g.t::SlE bl g.lv g.L::allM q.m::gP q.l d ((2+4:Nat):Int) 5::SlE (SL.one vs) allv jq::R) (λy=>az g.r 88 (eF q.s g.rv hdM g.lv g.c.length)::stO q.s d q.l q.mb 109 4 q.sp false q.m y.1 y.2 O) (λy=>SI k g.c ⟨q.s,q.l,q.mb,q.sp,q.m,y.1,y.2⟩) ?_ ?_
          ·
           refine aD<|af rfl<|af rfl<|ab rfl (dy (k:=i) rfl S22 rfl rfl rfl (enc:=ma) (xs:=L) aK hil) ?_
           refine ab rfl (by exact kb rfl NY rfl aK ao) ?_
           refine ab rfl (oK (enc:=ma) (size:=3) (xs:=L) (k:=i) (f:=2) (a:=x) (u:=vi x.2.2) rfl C3 rfl aK (λ_=>rfl) rfl hxg rfl) ?_
           refine ab rfl (Rd.gtr rfl rfl rfl)<|aw<|aE rfl (λhc9=>?_) (λhc9=>?_)
           ·
            refine WC.drawn (oY q.s d q.l q.mb 109 4 q.sp false::fl vs miV q.mb q.m::az g.r 88 (eF q.s g.rv hdM g.lv g.c.length)::O) 12 rfl mixed ?_
            refine ae 0 rfl an aN rfl rfl rfl (al rfl rfl) ?_
            refine ae 1 rfl an aN rfl rfl rfl (al rfl rfl) ?_
            refine ae 2 rfl an aN rfl rfl rfl (al rfl rfl) ?_
            refine ae 3 rfl an aN rfl rfl rfl (dy (k:=i) rfl S22 rfl rfl rfl (enc:=ma) (xs:=L) aK hil) ?_
            refine ae 4 rfl an aN rfl rfl rfl ((by exact kb rfl NY rfl aK ao)) ?_
            refine ae 5 rfl an aN rfl rfl rfl (oK (enc:=ma) (size:=3) (xs:=L) (k:=i) (f:=2) (a:=x) (u:=vi x.2.2) rfl C3 rfl aK (λ_=>rfl) rfl hxg rfl) ?_
            refine ae 6 rfl an aN rfl rfl rfl (zd (m:=15) rfl rfl rfl rfl ct) ?_
            have hl15:=Er .i64 x.2.2 15
            refine ae 7 rfl an aN rfl rfl rfl (Rd.add rfl rfl rfl ao) ?_
            refine ae 9 rfl an aN rfl rfl rfl (al rfl rfl) ?_
            refine aS 8 rfl an rfl ?_
            refine aX (ps:=[]) rfl S23 aZ rfl rfl fy an rfl rfl rfl ?_;intro b132
            refine⟨aN,?_⟩
            refine WD.heap (λw h=>Sat.lz (α:=Int) (b:=b132) (enc:=SL.one vi) (xs:=[]) bh rfl rfl (λ_=>rfl) (Nat.zero_le _) h) ?_
            refine aS 10 rfl an rfl ?_
            refine c7 (enc:=SL.one vi) (ys:=keep) (xs:=[]) rfl S23 Tryz.underlying23 rfl rfl bh aK ie ie (by exact⟨by simp only[maxLen,List.length_append,List.length_nil,List.length_cons,List.length_drop,List.length_take,List.length_map];omega,by(simp only[List.length_append,List.length_nil,List.length_cons,List.length_drop,List.length_take,List.length_map];omega)⟩) rfl rfl ?_;intro v134 hv134
            refine⟨aN,?_⟩
            rw[List.nil_append]
            refine WD.heap (λw h=>Sat.eE (xs:=keep) bh h) ?_
            refine aS 11 rfl an rfl ?_
            refine aj rfl rfl aZ an rfl rfl rfl ?_
            refine Fun.heap (O':=sgO d q (az g.r 88 (eF q.s g.rv hdM g.lv g.c.length)::O)) bN ?_
            refine JR (keep:=keep) iQ.v aK hkl ?_;intro V5 hv5
            refine⟨aN,?_⟩
            refine WD.done an ?_
            exact⟨(V5,vZ q.D (1+((land .i64 x.2.2 15:Nat):Int)) keep),⟨iQ.st.cut _ _,Dk.cut iQ.dk ao _,hv5⟩,cC,bN⟩
           ·
            refine ay ?_
            exact⟨(q.V,q.D),iQ,cC,bN⟩
          ·
           rintro⟨V5,D5⟩ iQ5
           dsimp only at iQ5⊢
           refine aD<|af rfl<|af rfl ?_
           refine aq rfl<|aj rfl rfl aZ an rfl rfl rfl ?_
           refine AI (t:=g.t) (L:=g.L) (u:=u) (c:=g.c) aK (iQ5.env (d:=d) ao aK aK aK aK) iR.st aK aK aK hup ao ao ?_
           intro V6 D6 m6 sp6 off6 e6 rv6 lv6 hdn hdk6 hv6 hkv6 g6 h6
           have e6k:SlE (SL.one vi) V6.kv D6.keep=SlE (SL.one vi) V5.kv D5.keep:=by rw[hkv6,hdn.keep]
           refine ar rfl<|aw<|WC.cut (α:=Value×Nat) (λy=>[(0,lv),(1,kv),(5,dp d),(9,dp g.r),(10,allv),(11,y.1),(12,.int .i64 (y.2:Int)),(13,.int .i64 (i:Int)),(14,v65),(15,uv),(18,.int .i64 (e6:Nat))]) (λ_=>SlE (SL.one vi) V6.kv D6.keep::SlE encR rv6 (eZ g.t u)::SlE bl lv6 (g.L++u)::allM m6::SlE bl uv u::SlE (SL.one vs) v65 nx::SlE (SL.one vs) av at_::SlE encR g.rv g.t::SlE bl g.lv g.L::gP q.l d ((2+4:Nat):Int) 5::SlE (SL.one vs) allv jq::R) (λ_=>az g.r 88 (if e6=0 then eF q.s rv6 hdM lv6 (oT g.c g.t g.L u).length else eF q.s g.rv hdM g.lv g.c.length)::stO q.s d q.l q.mb 109 4 sp6 off6 m6 V6 D6 O) (λy=>(e6=0/\v65=y.1/\y.2=(g.L++u).length)∨(e6≠0/\av=y.1/\y.2=g.L.length)) ?_ ?_
           ·
            refine aD<|af rfl<|ab rfl (Rd.eql rfl rfl rfl)<|aw ?_
            refine aE rfl (λhc10=>?_) (λhc10=>?_)
            ·
             refine aB<|af rfl<|af rfl<|af rfl<|ab rfl (bu (enc:=bl) (xs:=u) rfl rfl Tryz.underlying38 aK) ?_
             refine ab rfl (Rd.add rfl rfl rfl ao) ?_
             refine aU 145 (u:=.int .i64 (((g.L++u).length:Nat):Int)) rfl (by rw[hln];push_cast;rfl) ?_
             refine ar rfl<|ar rfl<|aG ?_
             exact⟨(v65,(g.L++u).length),.inl ⟨by omega,rfl,rfl⟩,cC,λw h=>by simp only[e6k];exact dj h⟩
            ·
             refine ay ?_
             exact⟨(av,g.L.length),.inr ⟨by omega,rfl,rfl⟩,cC,λw h=>by simp only[e6k];exact dj h⟩
           ·
            rintro⟨yv,cn⟩ hy
            dsimp only at hy⊢
            refine WC.cut (α:=SG×RG×Value×List Tx) (λy=>[(0,lv),(1,kv),(5,dp d),(9,dp y.2.1.r),(10,allv),(11,y.2.2.1),(12,.int .i64 (y.2.1.L.length:Int)),(13,.int .i64 (i:Int))]) (λy=>SlE (SL.one vs) y.2.2.1 y.2.2.2::SlE encR y.2.1.rv y.2.1.t::SlE bl y.2.1.lv y.2.1.L::allM y.1.m::gP y.1.l d ((2+4:Nat):Int) 5::SlE (SL.one vi) y.1.V.kv y.1.D.keep::SlE (SL.one vs) allv jq::R) (λy=>az y.2.1.r 88 (eF y.1.s y.2.1.rv hdM y.2.1.lv y.2.1.c.length)::sgO d y.1 O) (λy=>SI (k+5500) y.2.1.c y.1/\RI (5*i+5) y.2.2.2 y.2.1) ?_ ?_
            ·
             refine aD<|af rfl ?_
             refine aq rfl<|aj rfl rfl aZ an rfl rfl rfl ?_
             refine Fun.heap (O':=stO q.s d q.l q.mb 109 4 sp6 off6 m6 V6 D6 (az g.r 88 (if e6=0 then eF q.s rv6 hdM lv6 (oT g.c g.t g.L u).length else eF q.s g.rv hdM g.lv g.c.length)::O)) bN ?_
             refine Aa ?_
             refine aU 147 (u:=.bool (decide (D6.off=true))) rfl (by simp) ?_
             refine aw<|aE rfl (λhc11=>?_) (λhc11=>?_)
             ·
              obtain⟨r0,r1,r2,rlen,rrd,ropen,rleft,F2,sp2,rst⟩:=hdn.res.resolve_left (λh=>by have h2:=h.2.2.1.mnt.cl.off;rw[h2] at hc11;cases hc11)
              subst r1
              obtain⟨_,rfl,rfl⟩:=hy.resolve_left (λh=>absurd h.1 ct)
              rw[if_neg (show ¬(7:Nat)=0 by decide)]
              obtain⟨g1,_,g3⟩:=yb (Dk.on hdk6) ((2+4:Nat):Int) 5
              obtain⟨G,hG⟩: ∃G,G=(cE (onS D6) ((2+4:Nat):Int) 5).1:=⟨_,rfl⟩
              rw[←hG] at rst rleft g1 g3
              have g3':G.keep=D6.keep:=g3
              obtain⟨c2,t2,L2,hst2,hrs2,hcase⟩: ∃c2 t2 L2,Stt 120 4 (some c2) F2 sp2 G/\RSt c2 t2 L2/\((t2=g.t/\L2=g.L)∨(t2=eZ g.t u/\L2=g.L++u)):=by
               rcases rst with h|h
               ·exact⟨g.c,g.t,g.L,h,iR.st,.inl ⟨rfl,rfl⟩⟩
               ·exact⟨oT g.c g.t g.L u,_,_,h,iR.st.next hup ao,.inr ⟨rfl,rfl⟩⟩
              have hl2:L2.length=g.L.length∨L2.length=g.L.length+u.length:=by
               rcases hcase with h|h
               ·left;rw[h.2]
               ·right;rw[h.2,hln]
              refine aD<|af rfl ?_
              refine aq rfl<|aj rfl rfl aZ an rfl rfl rfl ?_
              refine DN hv6 ?_;intro hv7
              refine aw<|bd<|af rfl ?_
              refine aq rfl<|aj rfl rfl aZ an rfl rfl rfl ?_
              refine Fun.heap (O':=dO d ⟨V6.lv,V6.sv,V6.kv,none⟩ (onS D6) O) bN ?_
              refine uu (n:=120) (files:=4) (F:=F2) (sp:=sp2) aK rrd rlen ropen (by rw[←hG];exact hst2.mnt) ao ao (Dk.on hdk6) ao hv7 (show SlE (SL.one vi) V6.kv D6.keep∈_ from aK) ?_
              rw[←hG]
              intro V8 s8 l8 mb8 m8 hfm8 hv8 hkv8
              have hkv8':V8.kv=V6.kv:=hkv8
              have e8k:SlE (SL.one vi) V8.kv G.keep=SlE (SL.one vi) V6.kv D6.keep:=by rw[hkv8',g3']
              have hI8:SI (k+5500) c2 ⟨s8,l8,mb8,sp2,m8,V8,G⟩:=⟨by show Stt 120 4 _ (eB m8) _ _;rw[hfm8];exact hst2,g1.mono ao,hv8⟩
              refine af rfl<|bH rfl<|bH rfl<|ar rfl<|ar rfl<|a7<|af rfl<|ab rfl (Rd.neq rfl rfl rfl)<|aw<|aE rfl (λhc12=>?_) (λhc12=>?_)
              ·
               exact absurd rfl hc12
              ·
               refine ay<|aa<|bd<|af rfl ?_
               refine aq rfl<|aj rfl rfl aZ an rfl rfl rfl ?_
               refine Fun.heap (R':=SlE (SL.one vi) V8.kv G.keep::allM m8::gP l8 d ((2+4:Nat):Int) 5::SlE bl uv u::SlE (SL.one vs) v65 nx::SlE (SL.one vs) av at_::SlE (SL.one vs) allv jq::R) (λw h=>by rw[e8k];exact dj h) ?_
               refine wV (c:=c2) (t:=t2) (L:=L2) aK (hI8.env (d:=d) ao aK aK aK aK) hrs2 ?_
               intro r9 rv9 lv9 g9 h9
               refine af rfl<|bH rfl<|bH rfl<|ar rfl<|ar rfl<|a7<|af rfl<|ab rfl (Rd.neq rfl rfl rfl)<|aw<|aE rfl (λhc13=>?_) (λhc13=>?_)
               ·
                exact absurd rfl hc13
               ·
                refine ay<|aa<|WC.pick [0,1,5,9,10,11,12,13,14,15] eS ?_
                refine WC.val 182 (.bool (decide (L2.length≠g.L.length))) ?_ ?_
                ·
                 refine aB<|af rfl<|aq rfl<|aj rfl rfl aZ an rfl rfl rfl ?_
                 refine o6 (s:=s8) (rv:=rv9) (lv:=lv9) (size:=c2.length) g9 h9 aK ?_
                 refine ab rfl (Rd.part (ft:=0) rfl Tryz.underlying48 rfl C38 rfl rfl rfl) ?_
                 refine ab rfl (bu (enc:=bl) (xs:=L2) rfl rfl Tryz.underlying38 aK) ?_
                 refine af rfl<|ab rfl (jn rfl rfl rfl)<|aU 169 (u:=.int .i64 (g.L.length:Int)) rfl (by rw[if_neg ao]) ?_
                 refine ab rfl (Rd.neq rfl rfl rfl)<|af rfl<|WL.case 171 rfl (λhg171=>?_) (λhg171=>?_)
                 ·
                  refine aT rfl (al rfl rfl)<|WL.c4 rfl rfl rfl rfl<|aj rfl rfl aZ an rfl rfl rfl ?_
                  refine o6 (s:=s8) (rv:=rv9) (lv:=lv9) (size:=c2.length) g9 h9 aK ?_
                  refine aT rfl (Rd.part (ft:=0) rfl Tryz.underlying48 rfl C38 rfl rfl rfl) ?_
                  refine aT rfl (bu (enc:=bl) (xs:=L2) rfl rfl Tryz.underlying38 aK) ?_
                  refine aT rfl (al rfl rfl)<|aT rfl (al rfl rfl)<|aT rfl (bu (enc:=bl) (xs:=u) rfl rfl Tryz.underlying38 aK) ?_
                  refine aT rfl (Rd.add rfl rfl rfl ao) ?_
                  refine aT rfl (jn rfl rfl rfl)<|aU 180 (u:=.int .i64 ((g.L.length:Int)+(u.length:Int))) rfl (by rw[if_neg ao]) ?_
                  refine aT rfl (Rd.eql rfl rfl rfl)<|ab rfl (aY rfl rfl rfl)<|aG ?_
                  exact⟨by repeat(first|exact Sub.nil|refine Sub.cons rfl (by first|rfl|(exact vb ⟨λh=>by omega,λh=>by omega⟩)) ?_),by exact(λ_ h=>h.thin (cB.mem cz))⟩
                 ·
                  refine aW rfl<|aW rfl<|aW rfl<|aW rfl<|aW rfl<|aW rfl<|aW rfl<|aW rfl<|aW rfl<|aW rfl<|ab rfl (aQ rfl rfl rfl)<|aG ?_
                  exact⟨by repeat(first|exact Sub.nil|refine Sub.cons rfl (by first|rfl|(exact GP ao)) ?_),by exact(λ_ h=>h.thin (cB.mem cz))⟩
                ·
                 refine aE rfl (λhc14=>?_) (λhc14=>?_)
                 ·
                  obtain⟨rfl,rfl⟩:=hcase.resolve_left (λh=>hc14 (by rw[h.2]))
                  refine aB<|af rfl<|af rfl<|af rfl<|ab rfl (bu (enc:=bl) (xs:=u) rfl rfl Tryz.underlying38 aK) ?_
                  refine ab rfl (Rd.add rfl rfl rfl ao) ?_
                  refine aU 187 (u:=.int .i64 (((g.L++u).length:Nat):Int)) rfl (by rw[hln];push_cast;rfl) ?_
                  refine ar rfl<|ar rfl<|aG ?_
                  exact⟨(⟨s8,l8,mb8,sp2,m8,V8,G⟩,⟨r9,rv9,lv9,eZ g.t u,g.L++u,c2⟩,v65,nx),⟨hI8,⟨hrs2,hnat,by show(g.L++u).length<=_;omega,g9,h9⟩⟩,cC,bN⟩
                 ·
                  obtain⟨rfl,rfl⟩:=hcase.resolve_right (λh=>hc14 (by rw[h.2];omega))
                  refine ay ?_
                  exact⟨(⟨s8,l8,mb8,sp2,m8,V8,G⟩,⟨r9,rv9,lv9,g.t,g.L,c2⟩,av,at_),⟨hI8,⟨hrs2,iR.at_,by show g.L.length<=_;omega,g9,h9⟩⟩,cC,bN⟩
             ·
              obtain⟨r1,r2,r3,r4⟩:=hdn.res.resolve_right (λh=>hc11 h.2.2.1)
              subst r1 r2
              obtain⟨_,rfl,rfl⟩:=hy.resolve_right (λh=>h.1 rfl)
              rw[if_pos (show(0:Nat)=0 from rfl)]
              refine aD<|af rfl<|ab rfl (Rd.neq rfl rfl rfl)<|aw ?_
              refine aE rfl (λhc15=>?_) (λhc15=>?_)
              ·
               exact absurd rfl hc15
              ·
               refine ay ?_
               exact⟨(⟨q.s,q.l,q.mb,sp6,m6,V6,D6⟩,⟨g.r,rv6,lv6,eZ g.t u,g.L++u,oT g.c g.t g.L u⟩,v65,nx),⟨⟨r3,hdk6.mono ao,hv6⟩,⟨iR.st.next hup ao,hnat,by show(g.L++u).length<=_;omega,g6,h6⟩⟩,cC,bN⟩
            ·
             rintro⟨q9,g9,av9,at9⟩ ⟨iS9,iR9⟩
             dsimp only at iS9 iR9⊢
             have hlen9:=iR9.len
             have hal9:=iR9.at_.len
             have htk9:=iR9.st.tok
             have htl9:=htk9.F0
             refine aD<|af rfl ?_
             refine aq rfl<|aj rfl rfl aZ an rfl rfl rfl ?_
             refine Fun.heap (O':=sgO d q9 (az g9.r 88 (eF q9.s g9.rv hdM g9.lv g9.c.length)::O)) bN ?_
             refine DN iS9.v ?_;intro hv10
             refine a7<|af rfl ?_
             refine aq rfl<|aj rfl rfl aZ an rfl rfl rfl ?_
             refine o6 (s:=q9.s) (rv:=g9.rv) (lv:=g9.lv) (size:=g9.c.length) iR9.rv iR9.lv aK ?_
             refine aq rfl<|OpW.alloc rfl I48 rfl ba rfl rfl ?_;intro b19
             refine aq rfl<|aM (h1:=by simp only[List.all_cons,List.all_nil,iR9.rv.one,iR9.lv.one];rfl) rfl G48 rfl rfl ba bh rfl rfl ba rfl ?_
             refine aw<|bd<|ab rfl (by exact ak rfl oZ rfl rfl) ?_
             refine ab rfl (ax (b:=b19) (off:=2) (u:=g9.lv) rfl C38 rfl aK rfl) ?_
             refine ab rfl (bu (enc:=bl) (xs:=g9.L) rfl rfl Tryz.underlying38 aK) ?_
             refine af rfl<|ab rfl (jn rfl rfl rfl)<|aU 198 (u:=.int .i64 (g9.L.length:Int)) rfl (by rw[if_neg ao]) ?_
             refine ab rfl (Rd.neq rfl rfl rfl)<|aw<|aE rfl (λhc16=>?_) (λhc16=>?_)
             ·
              exact absurd rfl hc16
             ·
              refine ay<|aa<|aD<|ar rfl<|aw ?_
              refine WC.block ?_
              refine WC.pick [20,0,1,5,9,10,11,12,13,19] eS ?_
              refine WC.lx 1 (λ(j:Nat)=>[(20,.int .i64 (j:Int))]) (λ(j:Nat)=>j<=5) (λ(j:Nat)=>5-j) (0) iw ?hinv3 cC (λ_ h=>h) ?_
              case hinv3=>
               exact Nat.zero_le _
              intro j
              rintro j1
              refine bd<|af rfl<|ab rfl (Rd.lss rfl rfl rfl)<|aw ?_
              refine aE rfl (λhc17=>?_) (λhc17=>?_)
              ·
               have hj:j<5:=by omega
               refine ay<|aa<|aF<|WC.block ?_
               refine aF<|WC.mL 11 rfl mixed ?_
               refine ae 0 rfl an bw.all rfl rfl rfl (bj (b:=b19) (off:=0) rfl G48 rfl aK ba rfl) ?_
               refine ae 1 rfl an bw.all rfl rfl rfl (al rfl rfl) ?_
               refine ae 2 rfl an bw.all rfl rfl rfl (al rfl rfl) ?_
               refine ae 3 rfl an bw.all rfl rfl rfl (c9 (enc:=SL.one vs) (xs:=jq) (k:=j) rfl S37 rfl rfl rfl aK (show j<5 by omega)) ?_
               refine ae 4 rfl an bw.all rfl rfl rfl (Rd.get (g:=vs) (xs:=jq) (k:=j) (a:=nmR j) rfl C9 rfl aK (Aw j hj)) ?_
               refine aS 5 rfl an rfl ?_
               refine aj rfl rfl aZ an rfl rfl rfl ?_
               refine E0 (t:=g9.t) (s:=nmR j) aK ao htk9.asc ?_;intro bb
               refine⟨aN,?_⟩
               refine ae 6 rfl an aN rfl rfl rfl (al rfl rfl) ?_
               refine ae 7 rfl an aN rfl rfl rfl (Rd.extract rfl rfl rfl) ?_
               refine ae 8 rfl an aN rfl rfl rfl (Rd.extract rfl rfl rfl) ?_
               refine ae 9 rfl an aN rfl rfl rfl (Rd.assign rfl rfl) ?_
               refine ae 10 rfl an aN rfl rfl rfl (Rd.assign rfl rfl) ?_
               refine WD.done an ?_
               refine aa<|aD<|af rfl<|af rfl<|af rfl<|ab rfl (c9 (enc:=SL.one vs) (xs:=at9) (k:=j) rfl S37 rfl rfl rfl aK ao) ?_
               refine ab rfl (Rd.get (g:=vs) (xs:=at9) (k:=j) (a:=at9[j]!) rfl C9 rfl aK (get!_of_lt ao)) ?_
               refine ab rfl (fA rfl rfl rfl)<|aw<|aE rfl (λhc18=>?_) (λhc18=>?_)
               ·
                exact absurd (iR9.at_.get j hj) hc18
               ·
                refine ay<|aA<|aa<|aB<|af rfl<|ab rfl (Rd.add rfl rfl rfl ao) ?_
                exact ar rfl<|aG<|bq.mk (j+1) ao ao cC bN
              ·
               refine WC.exit<|au.exit<|bq.exit<|aH.exit<|aA<|aa<|aB<|af rfl<|ab rfl (Rd.add rfl rfl rfl ao) ?_
               exact ar rfl<|aG<|jH.mk (i+1) ⟨q9.s,q9.l,q9.mb,q9.sp,q9.m,⟨q9.V.lv,q9.V.sv,q9.V.kv,none⟩,onS q9.D⟩ g9 av9 at9 ⟨by omega,by omega,⟨iS9.st.on,(Dk.on iS9.dk).mono ao,hv10⟩,iR9.mono ao,rfl⟩ ao cC bN
       ·
        refine WC.exit<|au.exit<|jH.exit<|aH.exit<|aa<|aD<|ar rfl<|aw ?_
        refine WC.ret (Ret.one Tryz.results3 rfl ?_)
        exact⟨_,_,hk,bN⟩
      ·
       refine aW rfl<|aW rfl<|ab rfl (aQ rfl rfl rfl)<|aw<|WC.no rfl<|WC.exit<|au.exit<|jH.exit<|aH.exit<|aa<|aD<|ar rfl<|aw ?_
       refine WC.ret (Ret.one Tryz.results3 rfl ?_)
       exact⟨_,_,hk,bN⟩
end
end Go.Proofs.YtebpkhlifcffnaaGreatDoor.Fs
namespace Go.Proofs.YtebpkhlifcffnaaGreatDoor.Fs
open Go Go.SL
theorem QA:zw Tryz.prog 40 ma (λ_ _=>True):=by
 have h:=Au (m:=3) Tryz.underlying40 an (nO (tz Tryz.underlying3) rfl an (nO (tz Tryz.underlying3) rfl an (nO (tz Tryz.underlying3) rfl an Ci)))
 exact JM (λx=>(x.1,x.2.1,x.2.2.1)) h (λ_=>rfl) (λ_ _ _=>trivial)
end Go.Proofs.YtebpkhlifcffnaaGreatDoor.Fs
namespace Go.Proofs.YtebpkhlifcffnaaGreatDoor
open Go Go.SL
theorem Bl{W:World}{g:Nat}(h:dQ g W)(w':World)(ha:dA (· ∈owned []) W w'):dQ g w':=by
 obtain⟨m,hm⟩:=h
 refine⟨m,?_⟩
 rw[←hm]
 exact World.cell?_of_block (ha.2.2.2.2 _ (World.block_lt_of_cell? W _ hm) (by simp[owned]))
end Go.Proofs.YtebpkhlifcffnaaGreatDoor
