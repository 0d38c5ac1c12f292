/-
  Part 6 of the texts that the law TopTogether is proved with: On1, Ng, Na3, Na4, Na5, Re1, Na6, Sp3, Sp4, Sp5, Fw1, Fw2, Fw3, Fi2, Fi3, Fi4, Fi5, Fw4, Fw5, Rno, Iter. No premise.
-/
import Derived.Test.YtebpkhlifcffnaaGreatDoorZ5
import Derived.Tactics
import Derived.Tactics2
import Derived.Defers
import Derived.Laws.Pointers
import Derived.Laws.LoneSync
import Derived.RegionTactic
import Derived.RegionCalls
import Derived.ChangeAlike
import Derived.KernelRfl
import Derived.Shelf.SlGeneric
import Derived.Shelf.SlIter.Nil
import Derived.Shelf.SortM.Plain
import Derived.Shelf.SortM.SortNone
import Derived.Ground.GgzProg
import Derived.Ground.SlgmProg
import Derived.Test.YtebpkhlifcffnaaGreatDoorProg
namespace Go.SL
open Go
section
variable{P:Program}{n:Sz}{o:Oper}{L:Env}{R:List RO}{O O':List Own}{K:Env->List RO->List Own->Prop}
theorem Sat.setRow{b off:Nat}{e:TypeId}{cs:List Value}{v:Value}{w:World}(hs':Sat R (az b e cs::O) w):Sat R (az b e (cs.set off v)::O) (w.setCell ⟨b,off,none⟩ v):=by
 have hp:(az b e cs).pred w:=hs'.see List.mem_cons_self
 have hlt':b<w.heap.size:=hs'.lt b (by simp[owned,az])
 refine hs'.update _ ⟨rfl,rfl,rfl,by simp,λj hj hn=>heap_setCell_other w _ _ v (by simpa [az] using hn)⟩ (by simp[az]) (by simpa [az] using hlt') (by simp[az]) (λw'' ha _=>?_)
 show w''.heap[b]? =_
 rw[ha.2.2.2.2 b (by simpa using hlt') (by simp[az])]
 exact lj hp off v
theorem Sat.Qt{w:World}(h:Sat R O w):Sat R O w.drew:=h.drew _
end
end Go.SL
namespace Go.Proofs.YtebpkhlifcffnaaGreatDoor
open Go Go.SL
namespace Once
theorem disable(w:World):(callFunc 365 #[]).run Tryz.prog w= .ok (.value (.tuple #[])) w:=run_call_mark0 Tryz.func365 an an an .disable an w
theorem enable(w:World):(callFunc 367 #[]).run Tryz.prog w= .ok (.value (.tuple #[])) w:=run_call_mark0 Tryz.func367 an an an .enable an w
theorem acquire(a:Addr)(w:World):(callFunc 368 #[.pointer (some a)]).run Tryz.prog w= .ok (.value (.tuple #[])) w:=run_call_marked Tryz.func368 an an an .acquire an a w
theorem releaseMerge(a:Addr)(w:World):(callFunc 370 #[.pointer (some a)]).run Tryz.prog w= .ok (.value (.tuple #[])) w:=run_call_marked Tryz.func370 an an an .releaseMerge an a w
theorem u2(a:Addr)(x:Value)(u:FrameMode)(w:World)(hc:w.cell? a=some x)(hz:w.frozen? a=false):
 CallsD Tryz.prog 344 #[.pointer (some a),.bool true] u w λe u' w'=>u'=u/\(e= .returned (.tuple #[])/\w'=w.drew.setCell a (.int .u32 1)):=by
 have hc':w.drew.cell? a=some x:=by go_simp
 have hz':w.drew.frozen? a=false:=by go_simp
 have hst:=run_call_store (P:=Tryz.prog) Tryz.func357 an an an an (k:=.u32) (y:=1) hc' hz'
 go_enter_d Tryz.func344,Tryz.ntmps344
 go_wp2
 go_region_calls
 all_goals(go_end0;exact⟨rfl,rfl⟩)
set_option maxRecDepth 100000 in
theorem sE(a:Addr)(u:FrameMode)(w:World)(hc:w.cell? a=some (.int .i32 1))(hz:w.frozen? a=false):
 CallsD Tryz.prog 343 #[.pointer (some a)] u w λe u' w'=>u'=u/\(e= .returned (.tuple #[])/\w'=w.setCell a (.int .i32 0)):=by
 have hd:=disable
 have he:=enable
 have hr:=releaseMerge
 have hadd:=run_call_add (P:=Tryz.prog) Tryz.func371 an an an .i32 an (y:= -1) (s:=0) hc hz (by simp[go_sem];rfl)
 have hcv:=run_convert_to_unsafe (P:=Tryz.prog) (src:=454) (dst:=276) Tryz.underlying454 Tryz.underlying276 an hc
 go_enter_d Tryz.func343,Tryz.ntmps343
 go_wp2
 go_end0
 go_wp2
 go_end0
 exact⟨rfl,rfl⟩
set_option maxRecDepth 100000 in
theorem G9(a:Addr)(w:World)(hc:w.cell? a=some (.int .i32 0))(hz:w.frozen? a=false):
 Calls Tryz.prog 342 #[.pointer (some a)] w λe w'=>e= .returned (.tuple #[])/\w'=w.setCell a (.int .i32 1):=by
 have hd:=disable
 have he:=enable
 have ha:=acquire
 have hcas:=run_call_cas_hit (P:=Tryz.prog) Tryz.func366 an an an .i32 an (y:=1) hc hz
 have hc':(w.setCell a (.int .i32 1)).cell? a=some (.int .i32 1):=World.cell?_setCell_same w a _ hc
 have hcv:=run_convert_to_unsafe (P:=Tryz.prog) (src:=454) (dst:=276) Tryz.underlying454 Tryz.underlying276 an hc'
 go_enter Tryz.func342,Tryz.ntmps342
 go_wp2
 first|go_end0|(simp only[Exit.inBlock,Exit.then];refine bodyPost_ret (results_none rfl _ _ _) rfl ?_)|refine bodyPost_ret (results_none rfl _ _ _) rfl ?_
 go_wp2
 go_end0
 exact⟨rfl,rfl⟩
set_option maxRecDepth 100000 in
set_option maxHeartbeats 1600000 in
theorem Jd(b off f:Nat)(fa fc:List Value)(hf:cZ Tryz.prog f=true)(Q:World->Prop)(w:World)(h0:w.cell? ⟨b,off,none⟩=some (.int .u32 0))(h1:w.cell? ⟨b,off+1,none⟩=some (.int .i32 0))
 (f0:w.frozen? ⟨b,off,none⟩=false) (f1:w.frozen? ⟨b,off+1,none⟩=false)
 (hc:Calls Tryz.prog f (fa.toArray++fc.toArray) (w.setCell ⟨b,off+1,none⟩ (.int .i32 1)) λe w'=> ∃v,e= .returned v/\Q w'/\w'.cell? ⟨b,off,none⟩=some (.int .u32 0)/\w'.cell? ⟨b,off+1,none⟩=some (.int .i32 1)/\w'.frozen? ⟨b,off,none⟩=false/\w'.frozen? ⟨b,off+1,none⟩=false):
 Calls Tryz.prog 327 #[.pointer (some ⟨b,off,none⟩),.func (.func f) fa.toArray fc.toArray] w λe w'=>e= .returned (.tuple #[])/\ ∃w2,Q w2/\w'=(w2.drew.setCell ⟨b,off,none⟩ (.int .u32 1)).setCell ⟨b,off+1,none⟩ (.int .i32 0):=by
 have hl:=run_call_load (P:=Tryz.prog) Tryz.func341 an an an .u32 an (w:=w.setCell ⟨b,off+1,none⟩ (.int .i32 1)) (a:=⟨b,off,none⟩) (x:=0) ((World.cell?_setCell_other _ ⟨b,off+1,none⟩ ⟨b,off,none⟩ _ (by simp)).trans h0)
 have hnot: ∀(x:Bool) (w:World),(Op.unary .not (.bool x)).run Tryz.prog w= .ok (.bool (!x)) w:=λ_ _=>rfl
 have hcf: ∀(args:Array Value) (w:World),(callFunc f args).run Tryz.prog w= .ok (.enter f args) w:=λargs w=>di hf args w
 go_enter_defers Tryz.func327,Tryz.ntmps327
 go_wp2_with (go_at_call 342;refine(G9 ⟨b,off+1,none⟩ _ (by go_simp) (by go_simp)).mono ?_;rintro e w' ⟨rfl,rfl⟩)
 go_wp2
 have hc2:Calls Tryz.prog f (fa++fc).toArray (w.setCell ⟨b,off+1,none⟩ (.int .i32 1)) λe w'=> ∃v,e= .returned v/\Q w'/\w'.cell? ⟨b,off,none⟩=some (.int .u32 0)/\w'.cell? ⟨b,off+1,none⟩=some (.int .i32 1)/\w'.frozen? ⟨b,off,none⟩=false/\w'.frozen? ⟨b,off+1,none⟩=false:=by simpa using hc
 refine hc2.mono ?_
 rintro e w1 ⟨v,rfl,hQ,c0,c1,z0,z1⟩
 go_wp2
 refine leaves_cons (f:=344) (args:=#[.pointer (some ⟨b,off,none⟩),.bool true]) (by simp) (by simp[go_sem]) ?_
 refine(u2 ⟨b,off,none⟩ (.int .u32 0) .returning _ c0 z0).mono ?_
 rintro e u' w'' ⟨rfl,rfl,rfl⟩
 refine leaves_cons (f:=343) (args:=#[.pointer (some ⟨b,off+1,none⟩)]) (by simp[settle]) (by simp[go_sem]) ?_
 refine(sE ⟨b,off+1,none⟩ _ _ ?_ (by simp[z1])).mono ?_
 ·refine(World.cell?_setCell_other _ ⟨b,off,none⟩ ⟨b,off+1,none⟩ _ (by simp)).trans ?_
  rw[World.cell?_drew]
  exact c1
 rintro e u' w'' ⟨rfl,rfl,rfl⟩
 simp[Leaves,settle,results,Tryz.results327]
 exact⟨w1,hQ,rfl⟩
set_option maxRecDepth 100000 in
theorem MA(a:Addr)(w:World)(h0:w.cell? a=some (.int .u32 0)):Calls Tryz.prog 326 #[.pointer (some a)] w λe w'=>e= .returned (.bool false)/\w=w':=by
 have hl:=run_call_load (P:=Tryz.prog) Tryz.func341 an an an .u32 an (w:=w) (a:=a) (x:=0) h0
 go_enter Tryz.func326,Tryz.ntmps326
 go_wp2
 go_ret
 simp
set_option maxRecDepth 100000 in
theorem Oo(b off f:Nat)(fa fc:List Value)(hf:cZ Tryz.prog f=true)(Q:World->Prop)(w:World)(h0:w.cell? ⟨b,off,none⟩=some (.int .u32 0))(h1:w.cell? ⟨b,off+1,none⟩=some (.int .i32 0))
 (f0:w.frozen? ⟨b,off,none⟩=false) (f1:w.frozen? ⟨b,off+1,none⟩=false)
 (hc:Calls Tryz.prog f (fa.toArray++fc.toArray) (w.setCell ⟨b,off+1,none⟩ (.int .i32 1)) λe w'=> ∃v,e= .returned v/\Q w'/\w'.cell? ⟨b,off,none⟩=some (.int .u32 0)/\w'.cell? ⟨b,off+1,none⟩=some (.int .i32 1)/\w'.frozen? ⟨b,off,none⟩=false/\w'.frozen? ⟨b,off+1,none⟩=false):
 Calls Tryz.prog 301 #[.pointer (some ⟨b,off,none⟩),.func (.func f) fa.toArray fc.toArray] w λe w'=>e= .returned (.tuple #[])/\ ∃w2,Q w2/\w'=(w2.drew.setCell ⟨b,off,none⟩ (.int .u32 1)).setCell ⟨b,off+1,none⟩ (.int .i32 0):=by
 have hnot: ∀(x:Bool) (w:World),(Op.unary .not (.bool x)).run Tryz.prog w= .ok (.bool (!x)) w:=λ_ _=>rfl
 go_enter Tryz.func301,Tryz.ntmps301
 go_wp2_with (first|(go_at_call 326;refine(MA ⟨b,off,none⟩ w h0).mono ?_;rintro e w' ⟨rfl,rfl⟩)|(go_at_call 327;refine(Jd b off f fa fc hf Q w h0 h1 f0 f1 hc).mono ?_;rintro e w' ⟨rfl,w2,hQ,rfl⟩))
 go_end0
 exact⟨rfl,w2,hQ,rfl⟩
set_option maxRecDepth 100000 in
theorem MB(b off f:Nat)(fa fc:List Value)(w:World)(h0:w.cell? ⟨b,off,none⟩=some (.int .u32 1)):
 Calls Tryz.prog 301 #[.pointer (some ⟨b,off,none⟩),.func (.func f) fa.toArray fc.toArray] w λe w'=>e= .returned (.tuple #[])/\w'=w:=by
 have hl:=run_call_load (P:=Tryz.prog) Tryz.func341 an an an .u32 an (w:=w) (a:=⟨b,off,none⟩) (x:=1) h0
 have hnot: ∀(x:Bool) (w:World),(Op.unary .not (.bool x)).run Tryz.prog w= .ok (.bool (!x)) w:=λ_ _=>rfl
 go_enter Tryz.func301,Tryz.ntmps301
 go_wp2
 go_end0
 exact⟨rfl,rfl⟩
end Once
theorem KP{cs:List Value}{off:Nat}{a b:Value}{b' t:Nat}{R:List RO}{O:List Own}{w:World}(hs:Sat R (az b' t cs::O) w)(h1:off+1<cs.length):Sat R (az b' t (Go.SL.spl cs off [a,b])::O) ((w.setCell ⟨b',off,none⟩ a).setCell ⟨b',off+1,none⟩ b):=by
 rw[EI h1]
 exact(hs.setRow (off:=off) (v:=a)).setRow (off:=off+1) (v:=b)
theorem mA{R:List RO}:Go.Ex.Jo Tryz.prog R 301 where
 body:=by kernel_rfl
 done g off t f cs fa fc O w hc hs:=by
  have hp:(az g t cs).pred w:=hs.see List.mem_cons_self
  refine(Once.MB g off f fa fc w (cy hp hc)).mono ?_
  rintro e w' ⟨rfl,rfl⟩
  exact⟨rfl,hs⟩
 run g off t f cs fa fc O w Q hc0 hc1 hb hs hcall:=by
  have hp:(az g t cs).pred w:=hs.see List.mem_cons_self
  have hlt1:off+1<cs.length:=(List.getElem?_eq_some_iff.1 hc1).1
  have hspl:Go.SL.spl cs (off+1) [.int .i32 1]=cs.set (off+1) (.int .i32 1):=by
   unfold Go.SL.spl
   rw[List.set_eq_take_append_cons_drop,if_pos hlt1]
   simp
  have hs1:Sat R (az g t (Go.SL.spl cs (off+1) [.int .i32 1])::O) (w.setCell ⟨g,off+1,none⟩ (.int .i32 1)):=by
   rw[hspl];exact hs.setRow
  have hc:=hcall _ hs1
  refine(Once.Oo g off f fa fc hb (λw'=> ∃t' cs' O',cs'[off]? =some (.int .u32 0)/\cs'[off+1]? =some (.int .i32 1)/\Q t' cs' O'/\Sat R (az g t' cs'::O') w') w (cy hp hc0) (cy hp hc1) (kB hp off) (kB hp (off+1)) ?_).mono ?_
  ·have:fa.toArray++fc.toArray=(fa++fc).toArray:=by simp
   rw[this]
   refine hc.mono ?_
   rintro e w' ⟨v,t',cs',O',rfl,h0,h1,hQ,hs'⟩
   have hp':(az g t' cs').pred w':=hs'.see List.mem_cons_self
   exact⟨v,rfl,⟨t',cs',O',h0,h1,hQ,hs'⟩,cy hp' h0,cy hp' h1,kB hp' off,kB hp' (off+1)⟩
  ·rintro e w' ⟨rfl,w2,⟨t',cs',O',h0,h1,hQ,hs'⟩,rfl⟩
   exact⟨t',cs',O',rfl,hQ,KP hs'.Qt (List.getElem?_eq_some_iff.1 h1).1⟩
end Go.Proofs.YtebpkhlifcffnaaGreatDoor
namespace Go.Ex
open Go Go.SL
theorem Ev{X:Fx}{R:List RO}{O:List Own}(hX:gB X R){f g:Nat}{s:List Nat}(hs: ∀n∈s,n<256)(hb:cZ X.P g=true)(hm:iU (mr X f g [.st s] [] h0)=true){POST:Value->List RO->List Own->Prop}(hk:POST (.bool true) R O):Fun X.P g #[vs (txt s)] R O POST:=by
 intro w hw
 cases hr:mr X f g [.st s] [] h0 with
 |none=>rw[hr] at hm;cases hm
 |some q=>
  rw[hr] at hm
  have hq1:q.1= .bo true:=by
   obtain⟨a,h⟩:=q
   cases a with
   |bo b=>cases b with
    |true=>rfl
    |false=>cases hm
   |_=>cases hm
  obtain⟨_,hC⟩:=kF hX (yz hX f f (Nat.le_refl _)) (show sr X (lU X f) g [.st s] [] h0=some q from hr)
  have hH:HR rhN [] [] h0 []:=⟨.nil,[],.nil,rfl⟩
  have hcw:=hC rhN [] [] O [vs (txt s)] w (.cons (.st hs) .nil) hH (λi _ _=>rfl) hw
  have key: ∀e w',Jn rhN [] [] h0.nx q R O e w'-> ∃v R' O',e= .returned v/\POST v R' O'/\Sat R' O' w':=by
   rintro e w' ⟨v,ρ',O',rfl,_,hv,_,hs'⟩
   rw[hq1] at hv
   cases hv
   exact⟨_,R,O,rfl,hk,ls hs'⟩
  rcases hcw with⟨_,hcw⟩|⟨v,w',hrun,_⟩
  ·exact hcw.mono key
  ·rw[di hb] at hrun;cases hrun
end Go.Ex
namespace Go.Proofs.YtebpkhlifcffnaaGreatDoor.Fs
open Go Go.SL Go.Ex
noncomputable def s0:List (Nat×KF):=[(283,nn),(282,tp),(161,ke),(177,eO)]
noncomputable def ld:Fx:={P:=Tryz.prog,G:=λ_=>none,K:=fR s0,Q:=fR [],once:=301}
def sm:Nat->List Nat
 |0=>[104,101,97,100,115,47,97]
 |1=>[104,101,97,100,115,47,98]
 |2=>[104,101,97,100,115,47,99]
 |3=>[116,97,103,115,47,100]
 |_=>[116,97,103,115,47,101]
def hdN:List Nat:=[104,101,97,100,115,47,109,97,105,110]
theorem F7:iU (mr ld 100000 59 [.st (sm 0)] [] h0)=true:=by kernel_rfl
theorem Gf:iU (mr ld 100000 59 [.st (sm 1)] [] h0)=true:=by kernel_rfl
theorem GM:iU (mr ld 100000 59 [.st (sm 2)] [] h0)=true:=by kernel_rfl
theorem GQ:iU (mr ld 100000 59 [.st (sm 3)] [] h0)=true:=by kernel_rfl
theorem Fv:iU (mr ld 100000 59 [.st (sm 4)] [] h0)=true:=by kernel_rfl
theorem Cg:iU (mr ld 100000 27 [.st hdN] [] h0)=true:=by kernel_rfl
section
variable{R:List RO}{O:List Own}{POST:Value->List RO->List Own->Prop}
theorem Ll(hg:dQ 1∈R): ∀x∈s0,kq Tryz.prog R x.1 x.2:=by
 intro x hx
 unfold s0 at hx
 rcases List.mem_cons.1 hx with rfl|hx
 ·exact iH Tryz.func283 an an an an
 rcases List.mem_cons.1 hx with rfl|hx
 ·exact jY Tryz.func282 an an an an
 rcases List.mem_cons.1 hx with rfl|hx
 ·exact fX hg
 rcases List.mem_cons.1 hx with rfl|hx
 ·exact dR hg
 cases hx
theorem Et(hg:dQ 1∈R):gB ld R where
 q:=QOk.of (jS (P:=Tryz.prog) (l:=[]) an)
 g:=λg cs h=>by cases h
 k:=sy.of (P:=Tryz.prog) (l:=s0) (Ll hg) rfl rfl
 mix:=by kernel_rfl
 once:=λ_=>mA
theorem MO: ∀k,k<5->(∀n∈sm k,n<256)/\txt (sm k)=nmR k:=by decide
theorem IB: ∀k,k<5->iU (mr ld 100000 59 [.st (sm k)] [] h0)=true
 |0,_=>F7
 |1,_=>Gf
 |2,_=>GM
 |3,_=>GQ
 |4,_=>Fv
 |k+5,h=>absurd h ao
theorem ra{s:Tx}(hg:dQ 1∈R)(h:uO s)(hk:POST (.bool true) R O):Fun Tryz.prog 59 #[vs s] R O POST:=by
 obtain⟨k,hk5,rfl⟩:=h
 obtain⟨h1,h2⟩:=MO k hk5
 rw[←h2]
 exact Ev (Et hg) h1 an (IB k hk5) hk
theorem wU(hg:dQ 1∈R)(hk:POST (.bool true) R O):Fun Tryz.prog 27 #[vs hdM] R O POST:=
 Ev (s:=hdN) (Et hg) ct an Cg hk
end
end Go.Proofs.YtebpkhlifcffnaaGreatDoor.Fs
namespace Go.Proofs.YtebpkhlifcffnaaGreatDoor.Fs
open Go Go.SL
theorem Qy{m:aO Tx Bool}{id:Tx}:((m.get id).map vbl).getD (.bool false)= .bool (decide (m.get id=some true)):=by cases m.get id with|none=>rfl|some b=>cases b<;>rfl
theorem Gr{m:aO Tx Bool}{l:List Upd}{i:Nat}(hi:i<l.length)(h: ∀z,m.get z=some true↔z∈(l.take i).map (·.1)): ∀z,(m.set l[i]!.1 true).get z=some true↔z∈(l.take (i+1)).map (·.1):=λz=>by
 rw[aO.gK,List.take_add_one,get!_of_lt hi,List.map_append]
 by_cases e:z=l[i]!.1
 ·simp[e]
 ·rw[if_neg e,h z]
  simp only[List.mem_append,List.mem_map,Option.toList_some,List.mem_singleton]
  constructor
  ·intro h;exact .inl h
  ·rintro(h|⟨u,rfl,rfl⟩)
   ·exact h
   ·exact absurd rfl e
theorem G4{l:List Upd}{i:Nat}(hi:i<l.length)(hn:(l.map (·.1)).Nodup):l[i]!.1∉(l.take i).map (·.1):=λh=>by
 rw[List.map_take] at h
 obtain⟨j,hj,e⟩:=List.mem_iff_getElem.1 h
 rw[List.length_take,List.length_map] at hj
 rw[List.getElem_take] at e
 have e2:l[i]!.1=(l.map (·.1))[i]'(by rw[List.length_map];exact hi):=by rw[List.getElem_map,getElem!_pos l i hi]
 rw[e2] at e
 exact List.pairwise_iff_getElem.1 hn j i (by rw[List.length_map];omega) (by rw[List.length_map];exact hi) ao e
section
variable{R:List RO}{O O':List Own}{POST:Value->List RO->List Own->Prop}
set_option maxRecDepth 20000 in
theorem OL{t:List Ref}{rv lv:Value}{s:Tx}(hv:SlE encR rv t∈R)(hl:t.length<=1000)(ha:Asc (t.map (·.1)))(hk: ∀p,nX t s p->POST (.tuple #[.int .i64 (p:Int),.bool (decide (p<t.length/\t[p]!.1=s))]) R O):
 Fun Tryz.prog 39 #[pL rv lv,vs s] R O POST:=by
 refine aC (l:=[_,_]) Tryz.func39 rfl Tryz.ntmps39 rfl (L0:=[(0,_),(1,_)]) rfl ?_
 refine aD<|aq rfl<|OpW.box rfl rfl ba rfl rfl ?_;intro b2
 refine ar rfl<|ar rfl<|a7<|ab rfl (by exact ak rfl mW rfl rfl) ?_
 refine ab rfl (by exact ax rfl C46 rfl aK (by rfl)) ?_
 refine af rfl<|aq rfl<|aj rfl rfl aZ an rfl rfl rfl ?_
 refine Rl hv hl ha ?_;intro p hp
 refine bH rfl<|bH rfl<|ar rfl<|ar rfl<|aw<|WC.heap (R':=R) (O':=O) bN ?_
 refine WC.ret (Ret.two Tryz.results39 rfl rfl ?_)
 exact hk p hp
set_option maxRecDepth 20000 in
theorem Pf{t:List Ref}{rv lv:Value}{s:Tx}(hv:bt 101 2 encR rv t∈O)(hl:t.length<=1000)(ha:Asc (t.map (·.1)))(hk: ∀p,nX t s p->POST (.tuple #[.int .i64 (p:Int),.bool (decide (p<t.length/\t[p]!.1=s))]) R O):
 Fun Tryz.prog 39 #[pL rv lv,vs s] R O POST:=by
 refine aC (l:=[_,_]) Tryz.func39 rfl Tryz.ntmps39 rfl (L0:=[(0,_),(1,_)]) rfl ?_
 refine aD<|aq rfl<|OpW.box rfl rfl ba rfl rfl ?_;intro b2
 refine ar rfl<|ar rfl<|a7<|ab rfl (by exact ak rfl mW rfl rfl) ?_
 refine ab rfl (by exact ax rfl C46 rfl aK (by rfl)) ?_
 refine af rfl<|aq rfl<|aj rfl rfl aZ an rfl rfl rfl ?_
 refine RR (List.mem_cons_of_mem _ hv) hl ha ?_;intro p hp
 refine bH rfl<|bH rfl<|ar rfl<|ar rfl<|aw<|WC.heap (R':=R) (O':=O) bN ?_
 refine WC.ret (Ret.two Tryz.results39 rfl rfl ?_)
 exact hk p hp
set_option maxRecDepth 20000 in
theorem E0{t:List Ref}{rv lv:Value}{s:Tx}(hv:SlE encR rv t∈R)(hl:t.length<=1000)(ha:Asc (t.map (·.1)))(hk: ∀b:Bool,POST (.tuple #[vs (ly t s),.bool b]) R O):
 Fun Tryz.prog 15 #[pL rv lv,vs s] R O POST:=by
 refine aC (l:=[_,_]) Tryz.func15 rfl Tryz.ntmps15 rfl (L0:=[(0,_),(1,_)]) rfl ?_
 refine aD<|aq rfl<|OpW.box rfl rfl ba rfl rfl ?_;intro b2
 refine ar rfl<|ar rfl<|a7<|ab rfl (by exact bj rfl G48 rfl aK ba rfl) ?_
 refine af rfl<|aq rfl<|aj rfl rfl aZ an rfl rfl rfl ?_
 refine OL hv hl ha ?_;intro p hp
 refine af rfl<|bH rfl<|bH rfl<|ar rfl<|ar rfl<|aw<|bd<|af rfl<|ab rfl (by exact iS rfl rfl) ?_
 refine aw<|aE rfl (λhc1=>?_) (λhc1=>?_)
 ·
  have hg:ly t s=[]:=get_none (by have:=hp.get ha;rwa [if_neg hc1] at this)
  refine aD<|ar rfl<|ar rfl<|aw ?_
  refine WC.heap (R':=R) (O':=O) bN ?_
  refine WC.ret (Ret.two Tryz.results15 rfl rfl ?_)
  rw[hg] at hk;exact hk _
 ·
  have hg0:p<t.length/\t[p]!.1=s:=Decidable.not_not.1 hc1
  have hg:ly t s=t[p]!.2:=by have:=hp.get ha;rwa [if_pos hg0] at this
  obtain⟨hpl,_⟩:=hg0
  refine ay<|aa<|aD<|ab rfl (by exact ak rfl mW rfl rfl) ?_
  refine ab rfl (by exact ax rfl C46 rfl aK (by rfl)) ?_
  refine af rfl<|ab rfl (dy (enc:=encR) (xs:=t) (k:=p) rfl S46 rfl rfl rfl aK hpl) ?_
  refine ab rfl (by exact kb rfl y5 rfl aK ao) ?_
  refine ab rfl (oK (enc:=encR) (size:=2) (xs:=t) (k:=p) (f:=1) (a:=t[p]!) (u:=vs t[p]!.2) rfl C9 rfl aK (λx=>rfl) ao (get!_of_lt hpl) rfl) ?_
  refine ar rfl<|ar rfl<|aw<|WC.heap (R':=R) (O':=O) bN ?_
  refine WC.ret (Ret.two Tryz.results15 rfl rfl ?_)
  rw[hg] at hk;exact hk _
set_option maxRecDepth 20000 in
theorem FB{u:Upd}(hx:dQ 1∈R)(h:uO u.1)(hk:POST (.bool false) R O):Fun Tryz.prog 133 #[.agg #[vs u.1,vs u.2.1,vs u.2.2]] R O POST:=by
 refine aC (l:=[_]) Tryz.func133 rfl Tryz.ntmps133 rfl (L0:=[(0,_)]) rfl ?_
 refine aD<|aq rfl<|OpW.box rfl rfl ba rfl rfl ?_;intro b1
 refine ar rfl<|a7<|ab rfl (by exact ak rfl qn rfl rfl) ?_
 refine ab rfl (by exact ax rfl C9 rfl aK (by rfl)) ?_
 refine aq rfl<|aj rfl rfl aZ an rfl rfl rfl ?_
 refine ra hx h ?_
 refine ab rfl (by exact Rd.not rfl rfl) ?_
 refine ar rfl<|aw<|WC.heap (R':=R) (O':=O) bN ?_
 refine WC.ret (Ret.one Tryz.results133 rfl ?_)
 exact hk
set_option maxRecDepth 20000 in
theorem Fz{u:Upd}(hx:dQ 1∈R)(h:ym u)(hk:POST (.bool false) R O):Fun Tryz.prog 185 #[.agg #[vs u.1,vs u.2.1,vs u.2.2]] R O POST:=by
 refine aC (l:=[_]) Tryz.func185 rfl Tryz.ntmps185 rfl (L0:=[(0,_)]) rfl ?_
 refine aD<|aq rfl<|OpW.box rfl rfl ba rfl rfl ?_;intro b1
 refine ar rfl<|aw<|WC.pick [1] eS ?_
 refine WC.val 2 (.bool (decide False)) ?_ ?_
 ·
  refine aB<|ab rfl (by exact ak rfl qn rfl rfl) ?_
  refine ab rfl (by exact ax rfl C9 rfl aK (by rfl)) ?_
  refine aq rfl<|aj rfl rfl aZ an rfl rfl rfl ?_
  refine ra hx h.L7 ?_
  refine ab rfl (by exact Rd.not rfl rfl) ?_
  refine aU 6 (u:=.bool (decide False)) rfl rfl ?_
  refine af rfl<|WL.case 7 rfl (λhg7=>?_) (λhg7=>?_)
  ·
   exact hg7.elim
  ·
   refine aT rfl (by exact bj rfl G43 rfl aK ba rfl) ?_
   refine WL.c4 rfl rfl rfl rfl<|aj rfl rfl aZ an rfl rfl rfl ?_
   refine sq (u:=u) ?_
   refine aT rfl (by exact iS rfl rfl) ?_
   refine ab rfl (aQ rfl rfl rfl)<|ar rfl<|aG ?_
   exact⟨by repeat(first|exact Sub.nil|refine Sub.cons rfl (by first|rfl|(exact vb ⟨λq=>q ⟨h.old,.inr h.new,h.ne⟩,False.elim⟩)) ?_),by exact(λ_ h=>h.thin (cB.mem cz))⟩
 ·
  refine WC.heap (R':=R) (O':=O) bN ?_
  refine WC.ret (Ret.one Tryz.results185 rfl ?_)
  exact hk
set_option maxRecDepth 20000 in
theorem Gx{l:List Upd}{lv:Value}{F:Nat}(hl:SlE bl lv l∈R)(hb:cZ Tryz.prog F=true)(hF: ∀u∈l,∀(O:List Own) (POST:Value->List RO->List Own->Prop),POST (.bool false) R O->Fun Tryz.prog F #[.agg #[vs u.1,vs u.2.1,vs u.2.2]] R O POST)(hk:POST (.int .i64 (-1)) R O):
 Fun Tryz.prog 186 #[lv,.func (.func F) #[] #[]] R O POST:=by
 refine Fun.len hl λhll=>?_
 refine aC (l:=[_,_]) Tryz.func186 rfl Tryz.ntmps186 rfl (L0:=[(0,_),(1,_)]) rfl ?_
 refine aD<|ar rfl<|aw<|bd<|af rfl<|ab rfl (by exact bu rfl rfl Tryz.underlying38 aK) ?_
 refine af rfl<|aw<|WC.block ?_
 refine WC.pick [8,0,1,7] eS ?_
 refine WC.lx 1 (λ(i:Nat)=>[(8,.int .i64 (i:Int))]) (λ(i:Nat)=>i<=l.length) (λ(i:Nat)=>l.length-i) (0) iw ?hinv1 cC (λ_ h=>h) ?_
 case hinv1=>
  exact Nat.zero_le _
 intro i
 rintro i1
 refine aD<|ab rfl (Rd.lss rfl rfl rfl)<|aw ?_
 refine aF<|aE rfl (λhc1=>?_) (λhc1=>?_)
 ·
  refine ay<|aa<|aF<|WC.block ?_
  refine aD<|af rfl<|ar rfl<|a7<|af rfl<|af rfl<|af rfl<|ab rfl (by exact dy (k:=i) rfl S38 rfl rfl ao aK ao) ?_
  refine ab rfl (dM (k:=i) (a:=l[i]!) (cs:=bl l[i]!) (enc:=bl) (xs:=l) rfl G43 rfl aK (λ_=>rfl) (get!_of_lt ao) ba) ?_
  refine aq rfl<|aj rfl rfl aZ hb rfl rfl rfl ?_
  refine hF l[i]! (fg ao) _ _ ?_
  refine aw<|WC.cond rfl (λhc2=>?_) (λhc2=>?_)
  ·
   cases hc2
  ·
   refine ay<|aA<|aa<|aB<|ab rfl (Rd.add rfl rfl rfl ao) ?_
   exact af rfl<|aG<|bq.mk (i+1) ao ao cC bN
 ·
  refine WC.exit<|au.exit<|bq.exit<|aH.exit<|aa<|aD<|ar rfl<|aw ?_
  refine WC.ret (Ret.one Tryz.results186 rfl ?_)
  exact hk
set_option maxRecDepth 20000 in
theorem w9{l:List Upd}{lv:Value}{F:Nat}(hl:SlE bl lv l∈R)(hb:cZ Tryz.prog F=true)(hF: ∀u∈l,∀(O:List Own) (POST:Value->List RO->List Own->Prop),POST (.bool false) R O->Fun Tryz.prog F #[.agg #[vs u.1,vs u.2.1,vs u.2.2]] R O POST)(hk:POST (.bool false) R O):
 Fun Tryz.prog 132 #[lv,.func (.func F) #[] #[]] R O POST:=by
 refine aC (l:=[_,_]) Tryz.func132 rfl Tryz.ntmps132 rfl (L0:=[(0,_),(1,_)]) rfl ?_
 refine aD<|ar rfl<|a7<|af rfl<|af rfl ?_
 refine aq rfl<|aj rfl rfl aZ an rfl rfl rfl ?_
 refine Gx hl hb hF ?_
 refine ab rfl (Rd.geq rfl rfl rfl)<|ar rfl<|aw<|WC.ret (Ret.one Tryz.results132 rfl ?_)
 exact hk
set_option maxRecDepth 20000 in
set_option maxHeartbeats 1000000 in
theorem qB{t:List Ref}{l:List Upd}{rv lv uv:Value}(hx:dQ 1∈R)(hv:SlE encR rv t∈R)(hu:SlE bl uv l∈R)(hl:t.length<=1000)(ha:Asc (t.map (·.1)))(hok:lW t l)(hk:POST (.int .i64 0) R O):
 Fun Tryz.prog 74 #[pL rv lv,uv,vs []] R O POST:=by
 have hne:0<l.length:=List.length_pos_iff.2 hok.ne
 refine Fun.len hu λhll=>?_
 refine bp<|aC (l:=[_,_,_]) Tryz.func74 rfl Tryz.ntmps74 rfl (L0:=[(0,_),(1,_),(2,_)]) rfl ?_
 refine aD<|aq rfl<|OpW.box rfl rfl ba rfl rfl ?_;intro b3
 refine ar rfl<|aw<|bd<|af rfl<|ab rfl (by exact bu rfl rfl Tryz.underlying38 aK) ?_
 refine ab rfl (Rd.eql rfl rfl rfl)<|af rfl<|WL.case 17 rfl (λhg17=>?_) (λhg17=>?_)
 ·
  omega
 ·
  refine aW rfl<|aW rfl<|ab rfl (aQ rfl rfl rfl)<|aw<|WC.no rfl<|ay<|aa<|bd<|af rfl<|ab rfl (fA rfl rfl rfl)<|af rfl ?_
  refine WL.case 23 rfl (λhg23=>?_) (λhg23=>?_)
  ·
   exact absurd rfl hg23
  ·
   refine aW rfl<|aW rfl<|aW rfl<|ab rfl (aQ rfl rfl rfl)<|aU 27 (u:=.bool (decide False)) rfl rfl ?_
   refine af rfl<|aT rfl (al rfl rfl)<|WL.c4 rfl rfl rfl rfl<|aj rfl rfl aZ an rfl rfl rfl ?_
   refine w9 hu an (λu hu O POST hk=>FB hx (hok.ok u hu).L7 hk) ?_
   refine ab rfl (aQ rfl rfl rfl)<|aw<|WC.cond rfl (λhc2=>?_) (λhc2=>?_)
   ·
    cases hc2
   ·
    refine ay<|aa<|aD<|aq rfl<|OpW.makeMap vs vbl rfl rfl rfl ?_;intro b32
    refine ar rfl<|aw<|bd<|af rfl<|ab rfl (by exact bu rfl rfl Tryz.underlying38 aK) ?_
    refine af rfl<|aw<|WC.block ?_
    refine WC.pick [35,1,3,7,33,34] eS ?_
    refine WC.ia 1 (λ(i:Nat) (m:aO Tx Bool)=>[(35,.int .i64 (i:Int))]) (λ(i:Nat) (m:aO Tx Bool)=>fl vs vbl b32 m::az b3 48 (qe rv lv)::O) (λ(i:Nat) (m:aO Tx Bool)=>i<=l.length/\ ∀z,m.get z=some true↔z∈(l.take i).map (·.1)) (λ(i:Nat) (m:aO Tx Bool)=>l.length-i) (0) (aO.empty) iw ?hinv1 cC (λ_ h=>h) ?_
    case hinv1=>
     exact⟨Nat.zero_le _,λz=>by simp⟩
    intro i m
    rintro⟨i1,i2⟩
    refine aD<|ab rfl (Rd.lss rfl rfl rfl)<|aw ?_
    refine aF<|aE rfl (λhc3=>?_) (λhc3=>?_)
    ·
     refine ay<|aa<|aF<|WC.block ?_
     refine aD<|ab rfl (by exact dy (k:=i) rfl S38 rfl rfl ao aK ao) ?_
     refine ab rfl (dM (k:=i) (a:=l[i]!) (cs:=bl l[i]!) (enc:=bl) (xs:=l) rfl G43 rfl aK (λ_=>rfl) (get!_of_lt ao) ba) ?_
     refine aq rfl<|OpW.alloc rfl I43 rfl ba rfl rfl ?_;intro b9
     refine aq rfl<|aM rfl G43 rfl rfl ba bh rfl rfl ba rfl ?_
     refine aw<|bd<|af rfl<|ab rfl (by exact ak rfl qn rfl rfl) ?_
     refine ab rfl (by exact ax rfl C9 rfl aK (by rfl)) ?_
     refine ab rfl (by exact Rd.lookup Q6 K9 rfl rfl rfl aK (by rfl)) ?_
     refine aU 42 (u:=.bool (decide False)) rfl (by rw[Qy];exact vb ⟨λh=>G4 ao hok.nd ((i2 _).1 h),False.elim⟩) ?_
     refine af rfl<|WL.case 43 rfl (λhg43=>?_) (λhg43=>?_)
     ·
      exact hg43.elim
     ·
      refine aT rfl (by exact bj rfl G43 rfl aK ba rfl) ?_
      refine WL.c4 rfl rfl rfl rfl<|aj rfl rfl aZ an rfl rfl rfl ?_
      refine sq (u:=l[i]!) ?_
      refine aT rfl (by exact iS rfl rfl) ?_
      refine ab rfl (aQ rfl rfl rfl)<|aw<|aE rfl (λhc4=>?_) (λhc4=>?_)
      ·
       exact absurd hc4 (λq=>q (by have:=hok.ok _ (fg (l:=l) (i:=i) ao);exact⟨this.old,.inr this.new,this.ne⟩))
      ·
       refine ay<|aa<|aB<|af rfl<|ab rfl (by exact ak rfl qn rfl rfl) ?_
       refine ab rfl (by exact ax rfl C9 rfl aK (by rfl)) ?_
       refine aq rfl<|OpW.mapUpdate Q6 K9 rfl rfl rfl rfl bh (by rfl) (by rfl) rfl ?_
       refine aG<|aA<|aa<|aB<|ab rfl (Rd.add rfl rfl rfl ao) ?_
       exact af rfl<|aG<|bC.mk (i+1) (m.set l[i]!.1 true) ⟨by omega,Gr ao i2⟩ ao cC bN
    ·
     refine WC.heap (R':=R) (O':=az b3 48 (qe rv lv)::O) bN ?_
     refine WC.exit<|au.exit<|bC.exit<|aH.exit<|aa<|bd<|af rfl<|ab rfl (by exact bu rfl rfl Tryz.underlying38 aK) ?_
     refine af rfl<|aw<|WC.block ?_
     refine WC.pick [54,3,52,53] eS ?_
     refine WC.iJ 1 (λ(i:Nat)=>[(54,.int .i64 (i:Int))]) (λ(i:Nat)=>az b3 48 (qe rv lv)::O) (λ(i:Nat)=>i<=l.length) (λ(i:Nat)=>l.length-i) (0) iw ?hinv2 cC (λ_ h=>h) ?_
     case hinv2=>
      exact Nat.zero_le _
     intro i
     rintro j1
     refine aD<|ab rfl (Rd.lss rfl rfl rfl)<|aw ?_
     refine aF<|aE rfl (λhc5=>?_) (λhc5=>?_)
     ·
      refine ay<|aa<|aF<|WC.block ?_
      refine aD<|ab rfl (by exact dy (k:=i) rfl S38 rfl rfl ao aK ao) ?_
      refine ab rfl (dM (k:=i) (a:=l[i]!) (cs:=bl l[i]!) (enc:=bl) (xs:=l) rfl G43 rfl aK (λ_=>rfl) (get!_of_lt ao) ba) ?_
      refine aq rfl<|OpW.alloc rfl I43 rfl ba rfl rfl ?_;intro b11
      refine aq rfl<|aM rfl G43 rfl rfl ba bh rfl rfl ba rfl ?_
      refine a7<|ab rfl (by exact bj rfl G48 rfl aK ba rfl) ?_
      refine ab rfl (by exact ak rfl qn rfl rfl) ?_
      refine ab rfl (by exact ax rfl C9 rfl aK (by rfl)) ?_
      refine aq rfl<|aj rfl rfl aZ an rfl rfl rfl ?_
      refine E0 (t:=t) hv hl ha ?_;intro b62
      refine af rfl<|bH rfl<|bH rfl<|ar rfl<|ar rfl<|a7<|af rfl<|ab rfl (by exact ak rfl zQ rfl rfl) ?_
      refine ab rfl (by exact ax rfl C9 rfl aK (by rfl)) ?_
      refine ab rfl (fA rfl rfl rfl)<|aw<|aE rfl (λhc6=>?_) (λhc6=>?_)
      ·
       exact absurd (hok.was _ (fg ao)) hc6
      ·
       refine ay<|aA<|aa<|aB<|ab rfl (Rd.add rfl rfl rfl ao) ?_
       exact af rfl<|aG<|bq.mk (i+1) ao ao cC bN
     ·
      refine WC.exit<|au.exit<|bq.exit<|aH.exit<|aa<|aD<|ar rfl<|aw ?_
      refine WC.ret (Ret.one Tryz.results74 rfl ?_)
      exact⟨_,_,hk,bN⟩
end
end Go.Proofs.YtebpkhlifcffnaaGreatDoor.Fs
namespace Go.Proofs.YtebpkhlifcffnaaGreatDoor.Fs
open Go Go.SL
abbrev oV:List Value:=[.slice none 0 0,vs [],.slice none 0 0]
theorem GJ{xs:List Ref}{p:Nat}{s:Tx}(hp:p<xs.length):(xs.set p (xs[p]!.1,s)).flatMap encR=(xs.flatMap encR).set (p*2+1) (vs s):=by
 induction xs generalizing p with
 |nil=>exact absurd hp (Nat.not_lt_zero _)
 |cons x r ih=>
  cases p with
  |zero=>rfl
  |succ p=>
   have e:(x::r)[p+1]! =r[p]! :=by simp
   have h2:p<r.length:=by simp at hp;omega
   rw[e,List.set_cons_succ,List.flatMap_cons,List.flatMap_cons,ih h2,List.set_append_right _ _ (by rw[cw];omega),cw,show(p+1)*2+1-2=p*2+1 by omega]
theorem Gd{xs:List Ref}{p:Nat}{x:Ref}{cur:List Value}(hp:p<xs.length)(hx:xs[p]!.1=x.1)(hct:cur.take (xs.length*2)=xs.flatMap encR):(cur.set (p*2+1) (vs x.2)).take ((xs.set p x).length*2)=(xs.set p x).flatMap encR:=by
 have e:x=(xs[p]!.1,x.2):=by rw[hx]
 rw[e,GJ hp,List.length_set,List.take_set,hct]
theorem AF{v:Value}{xs:List Upd}{w:World}(h:SlE bl v xs w): ∃d:Option Addr×Nat×Nat,v= .slice d.1 d.2.1 d.2.2:=by
 obtain⟨o,c,h,_⟩:=h
 exact⟨(o,_,c),h⟩
theorem Kr{t:List Ref}{l:List Upd}{i:Nat}(h:i<l.length):eZ t (l.take (i+1))=oM (eZ t (l.take i)) (l[i]!.1,l[i]!.2.2):=by
 rw[List.take_add_one,get!_of_lt h];exact IH _ _ _
theorem Mt{t:List Ref}(ha:Asc (t.map (·.1)))(ht: ∀r∈t,uO r.1/\r.2.length=32):t.length<=5:=by
 have:=lG ha.nodup (l':=jq) λs hs=>by
  obtain⟨r,hr,rfl⟩:=List.mem_map.1 hs
  exact AR (ht r hr).1
 rw[List.length_map] at this
 exact this
section
variable{R:List RO}{O O':List Own}{POST:Value->List RO->List Own->Prop}
set_option maxRecDepth 20000 in
theorem sf{xs:List Ref}{av:Value}(ha:SlE encR av xs∈R)(hb:xs.length<=100000)(hk: ∀v,bL v->POST v R (bt 101 2 encR v xs::O)):Fun Tryz.prog 75 #[av] R O POST:=by
 refine Fun.oR (φ:= ∃a c,av= .slice a xs.length c/\(a=none->xs.length=0)) ha (λw h=>by
  obtain⟨a,c,h1,_,_,h2,_⟩:=h
  exact⟨a,c,h1,h2⟩) ?_
 rintro⟨a,c,rfl,hn⟩
 refine aC (l:=[_]) Tryz.func75 rfl Tryz.ntmps75 rfl (L0:=[(0,_)]) rfl ?_
 refine aD<|ar rfl<|aw<|bd<|af rfl<|ab rfl (mf rfl Tryz.underlying46 rfl rfl)<|aw ?_
 refine WC.cond rfl (λhc1=>?_) (λhc1=>?_)
 ·
  refine aD<|ar rfl<|aw ?_
  obtain rfl:xs=[]:=List.length_eq_zero_iff.1 (hn (by simpa using hc1))
  refine WC.heap (λw h=>h.dH (α:=Ref) (e:=101) (size:=2) (enc:=encR)) ?_
  refine WC.ret (Ret.one Tryz.results75 rfl ?_)
  exact hk _ bL.sl
 ·
  refine ay<|aa<|aD<|aq rfl<|aX (ps:=[]) rfl S46 aZ rfl rfl fy an rfl rfl rfl ?_;intro b5
  refine af rfl<|WL.heap (λw h=>h.lz (α:=Ref) (enc:=encR) (size:=2) (xs:=[]) bh rfl rfl (λ_=>rfl) (Nat.zero_le _)) ?_
  refine aq rfl<|c7 (enc:=encR) rfl S46 Tryz.underlying46 rfl rfl bh aK ie ie (by exact⟨by simp only[maxLen,List.length_append,List.length_nil,List.length_cons,List.length_drop,List.length_take,List.length_map];omega,by(simp only[List.length_append,List.length_nil,List.length_cons,List.length_drop,List.length_take,List.length_map];omega)⟩) rfl rfl ?_;intro v7 hv7
  refine ar rfl<|aw<|WC.ret (Ret.one Tryz.results75 rfl ?_)
  exact hk _ hv7
set_option maxRecDepth 20000 in
theorem nF{xs:List Upd}{av:Value}(ha:SlE bl av xs∈R)(hb:xs.length<=100000)(hk: ∀v,bL v->POST v R (bt 43 3 bl v xs::O)):Fun Tryz.prog 76 #[av] R O POST:=by
 refine Fun.oR (φ:= ∃a c,av= .slice a xs.length c/\(a=none->xs.length=0)) ha (λw h=>by
  obtain⟨a,c,h1,_,_,h2,_⟩:=h
  exact⟨a,c,h1,h2⟩) ?_
 rintro⟨a,c,rfl,hn⟩
 refine aC (l:=[_]) Tryz.func76 rfl Tryz.ntmps76 rfl (L0:=[(0,_)]) rfl ?_
 refine aD<|ar rfl<|aw<|bd<|af rfl<|ab rfl (mf rfl Tryz.underlying38 rfl rfl)<|aw ?_
 refine WC.cond rfl (λhc1=>?_) (λhc1=>?_)
 ·
  refine aD<|ar rfl<|aw ?_
  obtain rfl:xs=[]:=List.length_eq_zero_iff.1 (hn (by simpa using hc1))
  refine WC.heap (λw h=>h.dH (α:=Upd) (e:=43) (size:=3) (enc:=bl)) ?_
  refine WC.ret (Ret.one Tryz.results76 rfl ?_)
  exact hk _ bL.sl
 ·
  refine ay<|aa<|aD<|aq rfl<|aX (ps:=[]) rfl S38 aZ rfl rfl fy an rfl rfl rfl ?_;intro b5
  refine af rfl<|WL.heap (λw h=>h.lz (α:=Upd) (enc:=bl) (size:=3) (xs:=[]) bh rfl rfl (λ_=>rfl) (Nat.zero_le _)) ?_
  refine aq rfl<|c7 (enc:=bl) rfl S38 Tryz.underlying38 rfl rfl bh aK ie ie (by exact⟨by simp only[maxLen,List.length_append,List.length_nil,List.length_cons,List.length_drop,List.length_take,List.length_map];omega,by(simp only[List.length_append,List.length_nil,List.length_cons,List.length_drop,List.length_take,List.length_map];omega)⟩) rfl rfl ?_;intro v7 hv7
  refine ar rfl<|aw<|WC.ret (Ret.one Tryz.results76 rfl ?_)
  exact hk _ hv7
set_option maxRecDepth 20000 in
set_option maxHeartbeats 2000000 in
theorem uB{t:List Ref}{L l:List Upd}{rv lv uv:Value}(hx:dQ 1∈R)(hv:SlE encR rv t∈R)(hL:SlE bl lv L∈R)(hu:SlE bl uv l∈R)(hok:TOk t L)(hup:lW t l)(hn:L.length+l.length<=120)
 (hk: ∀rv' lv',bL rv'->bL lv'->POST (.tuple #[pL rv' lv',.int .i64 0]) (SlE encR rv' (eZ t l)::SlE bl lv' (L++l)::R) O):
 Fun Tryz.prog 36 #[pL rv lv,uv,vs []] R O POST:=by
 have htl:=hok.F0
 refine bp<|aC (l:=[_,_,_]) Tryz.func36 rfl Tryz.ntmps36 rfl (L0:=[(0,_),(1,_),(2,_)]) rfl ?_
 refine aD<|aq rfl<|OpW.box rfl rfl ba rfl rfl ?_;intro b3
 refine aq rfl<|OpW.alloc rfl I48 rfl ba rfl rfl ?_;intro b6
 refine ar rfl<|aw<|bd<|ab rfl (by exact bj rfl G48 rfl aK ba rfl) ?_
 refine af rfl<|af rfl<|aq rfl<|aj rfl rfl aZ an rfl rfl rfl ?_
 refine qB hx hv hu ao hok.asc hup ?_
 refine ar rfl<|a7<|af rfl<|ab rfl (Rd.neq rfl rfl rfl)<|aw<|aE rfl (λhc1=>?_) (λhc1=>?_)
 ·
  exact absurd rfl hc1
 ·
  refine ay<|aa<|WC.cut (α:=Nat×Value×Value) (λq=>[(1,uv),(2,vs []),(6,.pointer (some ⟨b6,0,none⟩)),(9,.pointer (some ⟨q.1,0,none⟩))]) (λ_=>R) (λq=>az q.1 48 [q.2.1,vs hdM,q.2.2]::bt 101 2 encR q.2.1 t::bt 43 3 bl q.2.2 (L++l)::az b6 48 oV::O) (λq=>bL q.2.1/\bL q.2.2) ?_ ?_
  ·
   refine WC.drawn (az b3 48 (qe rv lv)::O) 13 rfl mixed ?_
   refine ae 0 rfl an aN rfl rfl rfl ((by exact ak rfl mW rfl rfl)) ?_
   refine ae 1 rfl an aN rfl rfl rfl ((by exact ax rfl C46 rfl aK (by rfl))) ?_
   refine ae 3 rfl an aN rfl rfl rfl ((by exact ak rfl JY rfl rfl)) ?_
   refine ae 4 rfl an aN rfl rfl rfl ((by exact ax rfl C9 rfl aK (by rfl))) ?_
   refine ae 5 rfl an aN rfl rfl rfl ((by exact ak rfl oZ rfl rfl)) ?_
   refine ae 6 rfl an aN rfl rfl rfl ((by exact ax rfl C38 rfl aK (by rfl))) ?_
   refine ae 8 rfl an aN rfl rfl rfl (al rfl rfl) ?_
   refine WD.two 2 11 rfl rfl an rfl rfl ?_ ?_
   ·
    refine aj rfl rfl aZ an rfl rfl rfl ?_
    refine sf (xs:=t) aK ao ?_;intro v24 hv24
    refine⟨aN,?_⟩
    refine WD.two 7 11 rfl rfl an rfl rfl ?_ ?_
    ·
     refine aj rfl rfl aZ an rfl rfl rfl ?_
     refine nF (xs:=L) aK ao ?_;intro v29 hv29
     refine⟨aN,?_⟩
     refine WD.two 9 11 rfl rfl an rfl rfl ?_ ?_
     ·
      refine c7 (enc:=bl) rfl S38 Tryz.underlying38 rfl rfl bh aK ie ie (by exact⟨by simp only[maxLen,List.length_append,List.length_nil,List.length_cons,List.length_drop,List.length_take,List.length_map];omega,by omega⟩) rfl rfl ?_;intro v31 hv31
      refine⟨aN,?_⟩
      refine ae 10 rfl an aN rfl rfl rfl (bO (ps:=[(0,_),(1,_),(2,_)]) rfl FY I48 rfl aZ (cG.cons hv24.cells (cG.cons rfl (cG.cons hv31.cells cG.nil))) (by apply NFo.mk;repeat(first|exact NF.nil|apply NF.cons))) ?_
      refine aS 11 rfl an rfl ?_
      refine OpW.alloc rfl I48 rfl ba rfl rfl ?_;intro b9
      refine⟨aN,?_⟩
      refine aS 12 rfl an rfl ?_
      refine aM (h1:=by simp only[List.all_cons,List.all_nil,hv24.one,hv31.one];rfl) rfl G48 rfl rfl ba bh rfl rfl ba rfl ?_
      refine⟨aN,?_⟩
      refine WD.done an ?_
      exact⟨(b9,v24,v31),⟨hv24,hv31⟩,cC,bN⟩
     ·
      refine OpW.alloc rfl I48 rfl ba rfl rfl ?_;intro b9
      refine⟨aN,?_⟩
      refine aS 9 rfl an rfl ?_
      refine c7 (enc:=bl) rfl S38 Tryz.underlying38 rfl rfl bh aK ie ie (by exact⟨by simp only[maxLen,List.length_append,List.length_nil,List.length_cons,List.length_drop,List.length_take,List.length_map];omega,by omega⟩) rfl rfl ?_;intro v31 hv31
      refine⟨aN,?_⟩
      refine ae 10 rfl an aN rfl rfl rfl (bO (ps:=[(0,_),(1,_),(2,_)]) rfl FY I48 rfl aZ (cG.cons hv24.cells (cG.cons rfl (cG.cons hv31.cells cG.nil))) (by apply NFo.mk;repeat(first|exact NF.nil|apply NF.cons))) ?_
      refine aS 12 rfl an rfl ?_
      refine aM (h1:=by simp only[List.all_cons,List.all_nil,hv24.one,hv31.one];rfl) rfl G48 rfl rfl ba bh rfl rfl ba rfl ?_
      refine⟨aN,?_⟩
      refine WD.done an ?_
      exact⟨(b9,v24,v31),⟨hv24,hv31⟩,cC,bN⟩
    ·
     refine OpW.alloc rfl I48 rfl ba rfl rfl ?_;intro b9
     refine⟨aN,?_⟩
     refine aS 7 rfl an rfl ?_
     refine aj rfl rfl aZ an rfl rfl rfl ?_
     refine nF (xs:=L) aK ao ?_;intro v29 hv29
     refine⟨aN,?_⟩
     refine aS 9 rfl an rfl ?_
     refine c7 (enc:=bl) rfl S38 Tryz.underlying38 rfl rfl bh aK ie ie (by exact⟨by simp only[maxLen,List.length_append,List.length_nil,List.length_cons,List.length_drop,List.length_take,List.length_map];omega,by omega⟩) rfl rfl ?_;intro v31 hv31
     refine⟨aN,?_⟩
     refine ae 10 rfl an aN rfl rfl rfl (bO (ps:=[(0,_),(1,_),(2,_)]) rfl FY I48 rfl aZ (cG.cons hv24.cells (cG.cons rfl (cG.cons hv31.cells cG.nil))) (by apply NFo.mk;repeat(first|exact NF.nil|apply NF.cons))) ?_
     refine aS 12 rfl an rfl ?_
     refine aM (h1:=by simp only[List.all_cons,List.all_nil,hv24.one,hv31.one];rfl) rfl G48 rfl rfl ba bh rfl rfl ba rfl ?_
     refine⟨aN,?_⟩
     refine WD.done an ?_
     exact⟨(b9,v24,v31),⟨hv24,hv31⟩,cC,bN⟩
   ·
    refine OpW.alloc rfl I48 rfl ba rfl rfl ?_;intro b9
    refine⟨aN,?_⟩
    refine aS 2 rfl an rfl ?_
    refine aj rfl rfl aZ an rfl rfl rfl ?_
    refine sf (xs:=t) aK ao ?_;intro v24 hv24
    refine⟨aN,?_⟩
    refine aS 7 rfl an rfl ?_
    refine aj rfl rfl aZ an rfl rfl rfl ?_
    refine nF (xs:=L) aK ao ?_;intro v29 hv29
    refine⟨aN,?_⟩
    refine aS 9 rfl an rfl ?_
    refine c7 (enc:=bl) rfl S38 Tryz.underlying38 rfl rfl bh aK ie ie (by exact⟨by simp only[maxLen,List.length_append,List.length_nil,List.length_cons,List.length_drop,List.length_take,List.length_map];omega,by omega⟩) rfl rfl ?_;intro v31 hv31
    refine⟨aN,?_⟩
    refine ae 10 rfl an aN rfl rfl rfl (bO (ps:=[(0,_),(1,_),(2,_)]) rfl FY I48 rfl aZ (cG.cons hv24.cells (cG.cons rfl (cG.cons hv31.cells cG.nil))) (by apply NFo.mk;repeat(first|exact NF.nil|apply NF.cons))) ?_
    refine aS 12 rfl an rfl ?_
    refine aM (h1:=by simp only[List.all_cons,List.all_nil,hv24.one,hv31.one];rfl) rfl G48 rfl rfl ba bh rfl rfl ba rfl ?_
    refine⟨aN,?_⟩
    refine WD.done an ?_
    exact⟨(b9,v24,v31),⟨hv24,hv31⟩,cC,bN⟩
  ·
   rintro⟨b9,v24,v31⟩ ⟨hv24,hv31⟩
   refine WC.heap (λw h=>Sat.eE (xs:=L++l) (v:=v31) (enc:=bl) bh h) ?_
   refine WC.oR (p:=SlE bl v31 (L++l)) List.mem_cons_self (λw h=>AF h) ?_
   rintro⟨⟨d1,d2,d3⟩,rfl⟩
   have hll:(L++l).length<=120:=by rw[List.length_append];exact hn
   refine aD<|ab rfl (by exact ak rfl oZ rfl rfl) ?_
   refine ab rfl (by exact ax rfl C38 rfl aK (by rfl)) ?_
   refine ab rfl (by exact ak rfl oZ rfl rfl) ?_
   refine ab rfl (by exact ax rfl C38 rfl aK (by rfl)) ?_
   refine ab rfl (bu (enc:=bl) (xs:=L++l) rfl rfl Tryz.underlying38 aK) ?_
   refine ab rfl (Rd.sub rfl rfl rfl ao) ?_
   refine ab rfl (qE rfl rfl rfl)<|aU 39 (u:=.int .i64 ((0:Nat):Int)) rfl (by congr 1;omega) ?_
   refine ab rfl (BD (enc:=bl) (xs:=L++l) (lo:=0) rfl S38 rfl rfl rfl aK (Nat.zero_le _)) ?_
   obtain⟨lv2,hlv2⟩: ∃lv2,lv2=dW (.slice d1 d2 d3) 3 0 (L++l).length:=⟨_,rfl⟩
   have hlo:bL lv2:=by rw[hlv2];exact bL.sl
   refine WL.heap (λw h=>h.derive (q:=SlE bl lv2 (L++l)) (λw hw=>by have:=BC (size:=3) (enc:=bl) (v:=.slice d1 d2 d3) (xs:=L++l) (λ_=>rfl) (Nat.zero_le _) (hw _ aK);rw[←hlv2] at this;exact this)) ?_
   refine aU 40 (u:=lv2) rfl hlv2.symm ?_
   refine ab rfl (by exact ak rfl oZ rfl rfl) ?_
   refine aq rfl<|aV rfl Z38 rfl rfl (by assumption) bh (by(simp;done)) rfl ?_
   refine aw<|bd<|af rfl<|ab rfl (fA rfl rfl rfl)<|aw ?_
   refine aE rfl (λhc2=>?_) (λhc2=>?_)
   ·
    exact absurd rfl hc2
   ·
    refine ay<|aa<|aF<|aF<|WC.heap (R':=SlE bl lv2 (L++l)::R) (O':=az b9 48 [v24,vs hdM,lv2]::bt 101 2 encR v24 t::az b6 48 oV::O) bN ?_
    refine aB<|af rfl<|ab rfl (bu (enc:=bl) (xs:=l) rfl rfl Tryz.underlying38 aK) ?_
    refine af rfl<|aw<|WC.block ?_
    refine WC.pick [48,6,9,46,47] eS ?_
    refine WC.ia 1 (λ(i:Nat) (rv2:Value)=>[(48,.int .i64 (i:Int))]) (λ(i:Nat) (rv2:Value)=>az b9 48 [rv2,vs hdM,lv2]::bt 101 2 encR rv2 (eZ t (l.take i))::az b6 48 oV::O) (λ(i:Nat) (rv2:Value)=>i<=l.length/\bL rv2) (λ(i:Nat) (rv2:Value)=>l.length-i) (0) (v24) iw ?hinv1 cC (λ_ h=>h) ?_
    case hinv1=>
     exact⟨Nat.zero_le _,hv24⟩
    intro i rv2
    rintro⟨i1,i2⟩
    refine aD<|ab rfl (Rd.lss rfl rfl rfl)<|aw ?_
    refine aF<|aE rfl (λhc3=>?_) (λhc3=>?_)
    ·
     have hi:i<l.length:=by omega
     obtain⟨T,hT⟩: ∃T,T=eZ t (l.take i):=⟨_,rfl⟩
     obtain⟨u,hu1⟩: ∃u,u=l[i]! :=⟨_,rfl⟩
     have huo:ym u:=by rw[hu1];exact hup.ok _ (fg hi)
     obtain⟨hTa,hTo⟩:=IF (l:=l.take i) hok.asc hok.ok (λu hu=>hup.ok u (List.mem_of_mem_take hu))
     have hnx:=Kr (t:=t) hi
     rw[←hT] at hTa hTo hnx
     rw[←hu1] at hnx
     have hTl:=Mt hTa hTo
     rw[←hT]
     refine ay<|aa<|aF<|WC.block ?_
     refine aD<|ab rfl (dy (enc:=bl) (xs:=l) (k:=i) rfl S38 rfl rfl rfl aK hi) ?_
     refine ab rfl (dM (k:=i) (a:=u) (cs:=bl u) (enc:=bl) (xs:=l) rfl G43 rfl aK (λ_=>rfl) (by rw[hu1];exact get!_of_lt hi) ba) ?_
     refine aq rfl<|OpW.alloc rfl I43 rfl ba rfl rfl ?_;intro b11
     refine aq rfl<|aM rfl G43 rfl rfl ba bh rfl rfl ba rfl ?_
     refine a7<|ab rfl (by exact bj rfl G48 rfl aK ba rfl) ?_
     refine ab rfl (by exact ak rfl qn rfl rfl) ?_
     refine ab rfl (by exact ax rfl C9 rfl aK (by rfl)) ?_
     refine aq rfl<|aj rfl rfl aZ an rfl rfl rfl ?_
     refine Pf (t:=T) aK ao hTa ?_;intro p hp
     refine af rfl<|bH rfl<|bH rfl<|ar rfl<|ar rfl<|aw<|WC.block ?_
     refine aD<|ab rfl (by exact ak rfl uo rfl rfl) ?_
     refine ab rfl (by exact ax rfl C9 rfl aK (by rfl)) ?_
     refine ab rfl (lq rfl rfl rfl)<|ar rfl<|aw<|aE rfl (λhc4=>?_) (λhc4=>?_)
     ·
      exact absurd hc4 (λe=>by have:=huo.new;rw[e] at this;cases this)
     ·
      refine aD<|af rfl<|ar rfl<|aw ?_
      refine aE rfl (λhc5=>?_) (λhc5=>?_)
      ·
       have hput:=hp.put (x:=(u.1,u.2.2)) hTa
       rw[if_pos hc5] at hput
       obtain⟨hpl,hpn⟩:=hc5
       refine vS (enc:=encR) (xs:=T) (size:=2) (e:=101) bh ao ?_
       rintro g cap cur rfl hnc hcm hcl hct
       refine aB<|ab rfl (by exact ak rfl mW rfl rfl) ?_
       refine ab rfl (by exact ax rfl C46 rfl aK (by rfl)) ?_
       refine af rfl<|ab rfl (by exact ak rfl uo rfl rfl) ?_
       refine ab rfl (by exact ax rfl C9 rfl aK (by rfl)) ?_
       refine ab rfl (by exact tg (k:=p) rfl S46 rfl rfl ao ao) ?_
       refine ab rfl (by exact ak rfl y5 rfl rfl) ?_
       refine aq rfl<|aV rfl Z9 rfl rfl (by exact⟨rfl,rfl⟩) bh ao rfl ?_
       refine aG<|aA<|aA<|aa<|aB<|ab rfl (Rd.add rfl rfl rfl ao) ?_
       exact af rfl<|aG<|bC.mk (i+1) _ ⟨by omega,bL.sl⟩ ao cC (λw h=>by
       rw[Nat.zero_add] at h
       have h2:=mV (e:=101) (xs:=T.set p (u.1,u.2.2)) (enc:=encR) (size:=2) (g:=g) (cap:=cap) bh cw (by rw[List.length_set];exact hnc) hcm (by rw[List.length_set];exact hcl) (Gd hpl hpn hct) h
       rw[List.length_set,←hput,←hnx] at h2
       exact dj h2)
      ·
       have hput:=hp.put (x:=(u.1,u.2.2)) hTa
       rw[if_neg hc5] at hput
       have hpi:=hp.le
       refine aB<|ab rfl (by exact ak rfl mW rfl rfl) ?_
       refine ab rfl (by exact ax rfl C46 rfl aK (by rfl)) ?_
       refine af rfl<|ab rfl (by exact ak rfl qn rfl rfl) ?_
       refine ab rfl (by exact ax rfl C9 rfl aK (by rfl)) ?_
       refine ab rfl (by exact ak rfl uo rfl rfl) ?_
       refine ab rfl (by exact ax rfl C9 rfl aK (by rfl)) ?_
       refine ab rfl (bO (ps:=[(0,_),(1,_)]) rfl Nv JH rfl aZ fy (by apply NFo.mk;repeat(first|exact NF.nil|apply NF.cons))) ?_
       refine aq rfl<|aX (ps:=[(0,_)]) rfl S46 aZ rfl rfl fy an rfl rfl rfl ?_;intro b67
       refine aq rfl<|aj rfl rfl aZ an rfl rfl rfl ?_
       refine Fun.heap (R':=SlE bl lv2 (L++l)::R) (O':=bt 101 2 encR rv2 T::az b67 101 (encR (u.1,u.2.2))::az b9 48 [rv2,vs hdM,lv2]::az b11 43 (bl u)::az b6 48 oV::O) bN ?_
       refine Av (x:=(u.1,u.2.2)) hpi ao ?_;intro v68 hv68
       rw[←hput,←hnx]
       refine ab rfl (by exact ak rfl mW rfl rfl) ?_
       refine aq rfl<|aV rfl Z46 rfl rfl (by assumption) bh (by(simp;done)) rfl ?_
       refine aG<|aA<|aA<|aa<|aB<|ab rfl (Rd.add rfl rfl rfl ao) ?_
       exact af rfl<|aG<|bC.mk (i+1) v68 ⟨by omega,hv68⟩ ao cC bN
    ·
     obtain rfl:i=l.length:=by omega
     rw[List.take_length]
     refine WC.exit<|au.exit<|bC.exit<|aH.exit<|aa<|aD<|ab rfl (by exact bj rfl G48 rfl aK ba rfl) ?_
     refine aq rfl<|aM (h1:=by simp only[List.all_cons,List.all_nil,i2.one,hlo.one];rfl) rfl G48 rfl rfl ba bh rfl rfl ba rfl ?_
     refine ar rfl<|aw<|WC.ret (dX (b:=b6) Tryz.results36 rfl rfl aK G48 rfl ?_)
     exact⟨_,_,hk rv2 lv2 i2 hlo,λw h=>by
     have h2:=Sat.eE (xs:=eZ t l) (v:=rv2) (enc:=encR) bh h
     exact dj h2⟩
end
end Go.Proofs.YtebpkhlifcffnaaGreatDoor.Fs
namespace Go.Proofs.YtebpkhlifcffnaaGreatDoor.Fs
open Go Go.SL
theorem AZ{t:List Ref}{i:Nat}(h:i<t.length):cO (t.take (i+1))=cO (t.take i)++[t[i]!.1,t[i]!.2]:=by
 unfold cO
 rw[List.take_add_one,get!_of_lt h,List.flatMap_append];rfl
theorem sb{l:List Upd}{i:Nat}(h:i<l.length):bz (l.take (i+1))=bz (l.take i)++[l[i]!.1,l[i]!.2.1,l[i]!.2.2]:=by
 unfold bz
 rw[List.take_add_one,get!_of_lt h,List.flatMap_append];rfl
theorem vq{l:List Upd}{i:Nat}(h:i<l.length):l.take (i+1)=l.take i++[l[i]!]:=by rw[List.take_add_one,get!_of_lt h];rfl
theorem CN{l:List Ref}{i:Nat}(h:i<l.length):l.take (i+1)=l.take i++[l[i]!]:=by rw[List.take_add_one,get!_of_lt h];rfl
theorem Gh{t:List Ref}{j:Nat}(h:j<t.length):((cO t).take (j*2+2)).drop (j*2)=[t[j]!.1,t[j]!.2]:=by
 induction t generalizing j with
 |nil=>exact absurd h (Nat.not_lt_zero _)
 |cons r t ih=>
  cases j with
  |zero=>rfl
  |succ j=>
   have e:(r::t)[j+1]! =t[j]! :=by simp
   have h2:j<t.length:=by simp at h;omega
   rw[e,←ih h2]
   show((r.1::r.2::cO t).take ((j+1)*2+2)).drop ((j+1)*2)=_
   rw[show(j+1)*2+2=(j*2+2)+1+1 by omega,show(j+1)*2=j*2+1+1 by omega];rfl
theorem FI{t:List Upd}{j:Nat}(h:j<t.length):((bz t).take (j*3+3)).drop (j*3)=[t[j]!.1,t[j]!.2.1,t[j]!.2.2]:=by
 induction t generalizing j with
 |nil=>exact absurd h (Nat.not_lt_zero _)
 |cons r t ih=>
  cases j with
  |zero=>rfl
  |succ j=>
   have e:(r::t)[j+1]! =t[j]! :=by simp
   have h2:j<t.length:=by simp at h;omega
   rw[e,←ih h2]
   show((r.1::r.2.1::r.2.2::bz t).take ((j+1)*3+3)).drop ((j+1)*3)=_
   rw[show(j+1)*3+3=(j*3+3)+1+1+1 by omega,show(j+1)*3=j*3+1+1+1 by omega];rfl
theorem CE{l out:List Tx}{r:Tx}{e:Int}(hs:Small l)(hp:sa (bD l) out r)(he:(e=0/\r=[]/\out=out)∨(e=(dt r).2.2/\e≠0/\r≠ [])):e=0/\out=l:=by
 obtain⟨h1,h2,_⟩:=hp.join
 have hst:HT r:=by
  rcases he with⟨_,h,_⟩|⟨h,h0,_⟩
  ·exact .inl h
  ·exact .inr (by rw[←h];exact h0)
 have:=xL (p:=[]) hs h2 (.inl rfl) hst (by rw[List.append_nil];exact h1)
 obtain⟨a,b⟩:=this
 rcases he with⟨h,_,_⟩|⟨_,_,h⟩
 ·exact⟨h,a.symm⟩
 ·exact absurd b.symm h
theorem uP{l:List Tx}(h: ∀x∈l,x.length<=32):Small l:=λx hx=>Nat.le_trans (h x hx) ct
section
variable{R:List RO}{O O':List Own}{POST:Value->List RO->List Own->Prop}
theorem kK{l:List Tx}{s:Tx}(hs:Small l)(hl:s=bD l)(hn:s.length<=100000)(hk: ∀v,POST (.tuple #[v,.int .i64 0]) (SlE (SL.one vs) v l::R) O):Fun Tryz.prog 129 #[vs s] R O POST:=by
 subst hl
 refine CU ao λv e out l' r hp he=>?_
 have h:e=0/\l'=l:=CE hs hp (by rcases he with⟨a,b,_⟩|⟨a,b,c,_⟩;exact .inl ⟨a,b,rfl⟩;exact .inr ⟨a,b,c⟩)
 obtain⟨rfl,rfl⟩:=h
 rcases he with⟨_,_,rfl⟩|⟨_,h,_⟩
 ·exact hk v
 ·exact absurd rfl h
set_option maxRecDepth 20000 in
set_option maxHeartbeats 1000000 in
theorem rW{t:List Ref}{L:List Upd}{rv lv:Value}(hv:SlE encR rv t∈R)(hL:SlE bl lv L∈R)(hok:TOk t L)(hk:POST (vs (pC t L)) R O):Fun Tryz.prog 31 #[pL rv lv] R O POST:=by
 have htl:=hok.F0
 have hLl:=hok.len
 obtain⟨hj1,hj2,hj3⟩:=hok.join
 refine bp<|aC (l:=[_]) Tryz.func31 rfl Tryz.ntmps31 rfl (L0:=[(0,_)]) rfl ?_
 refine WC.heap (R':=R) (O':=bt 9 1 (SL.one vs) (.slice none 0 0) []::bt 9 1 (SL.one vs) (.slice none 0 0) []::O) (λw h=>h.dH.dH) ?_
 refine aD<|aq rfl<|OpW.box rfl rfl ba rfl rfl ?_;intro b1
 refine ar rfl<|a7<|ar rfl<|ar rfl<|aw<|bd<|ab rfl (by exact ak rfl mW rfl rfl) ?_
 refine ab rfl (ax (b:=b1) (off:=0) (u:=rv) rfl C46 rfl aK rfl) ?_
 refine ab rfl (bu (enc:=encR) (xs:=t) rfl rfl Tryz.underlying46 aK) ?_
 refine af rfl<|aw<|WC.block ?_
 refine WC.pick [3,12,1,4,10,11] eS ?_
 refine WC.ia 2 (λ(i:Nat) (sv:Value)=>[(3,sv),(12,.int .i64 (i:Int))]) (λ(i:Nat) (sv:Value)=>bt 9 1 (SL.one vs) sv (cO (t.take i))::bt 9 1 (SL.one vs) (.slice none 0 0) []::az b1 48 (qe rv lv)::O) (λ(i:Nat) (sv:Value)=>i<=t.length/\bL sv) (λ(i:Nat) (sv:Value)=>t.length-i) (0) (.slice none 0 0) iw ?hinv1 cC (λw h=>by rw[show cO (t.take 0)=[] from rfl];exact dj h) ?_
 case hinv1=>
  exact⟨Nat.zero_le _,bL.sl⟩
 intro i sv
 rintro⟨i1,i2⟩
 refine aD<|ab rfl (Rd.lss rfl rfl rfl)<|aw ?_
 refine aF<|aE rfl (λhc1=>?_) (λhc1=>?_)
 ·
  have hpl:=py (t.take i)
  rw[List.length_take] at hpl
  refine ay<|aa<|aF<|WC.block ?_
  refine aD<|ab rfl (dy (enc:=encR) (xs:=t) (k:=i) rfl S46 rfl rfl rfl aK ao) ?_
  refine ab rfl (dM (k:=i) (a:=t[i]!) (cs:=encR t[i]!) (enc:=encR) (xs:=t) rfl zx rfl aK (λ_=>rfl) (get!_of_lt ao) ba) ?_
  refine aq rfl<|OpW.alloc rfl JH rfl ba rfl rfl ?_;intro b6
  refine aq rfl<|aM rfl zx rfl rfl ba bh rfl rfl ba rfl ?_
  refine lE<|af rfl<|ab rfl (by exact ak rfl u6 rfl rfl) ?_
  refine ab rfl (by exact ax rfl C9 rfl aK (by rfl)) ?_
  refine ab rfl (by exact ak rfl y5 rfl rfl) ?_
  refine ab rfl (by exact ax rfl C9 rfl aK (by rfl)) ?_
  refine aq rfl<|aX (ps:=[(0,_),(1,_)]) rfl S37 aZ rfl rfl fy an rfl rfl rfl ?_;intro b21
  refine aq rfl<|bR (enc:=SL.one vs) rfl S37 rfl rfl bh bh [t[i]!.1,t[i]!.2] rfl (by rfl) rfl ie ie (by exact⟨by simp only[maxLen,List.length_append,List.length_nil,List.length_cons,List.length_drop,List.length_take,List.length_map];omega,by omega⟩) rfl rfl ?_;intro v22 hv22
  refine ar rfl<|aG<|aA<|aa<|aB<|ab rfl (Rd.add rfl rfl rfl ao) ?_
  exact af rfl<|aG<|bC.mk (i+1) v22 ⟨by omega,hv22⟩ ao cC (by rw[AZ ao];exact bN)
 ·
  obtain rfl:i=t.length:=by omega
  rw[List.take_length]
  refine WC.exit<|au.exit<|bC.exit<|aH.exit<|aa<|bd<|ab rfl (by exact ak rfl oZ rfl rfl) ?_
  refine ab rfl (ax (b:=b1) (off:=2) (u:=lv) rfl C38 rfl aK rfl) ?_
  refine ab rfl (bu (enc:=bl) (xs:=L) rfl rfl Tryz.underlying38 aK) ?_
  refine af rfl<|aw<|WC.block ?_
  refine WC.pick [4,27,1,3,25,26] eS ?_
  refine WC.ia 2 (λ(i:Nat) (uv:Value)=>[(4,uv),(27,.int .i64 (i:Int))]) (λ(i:Nat) (uv:Value)=>bt 9 1 (SL.one vs) uv (bz (L.take i))::bt 9 1 (SL.one vs) sv (cO t)::az b1 48 (qe rv lv)::O) (λ(i:Nat) (uv:Value)=>i<=L.length/\bL uv) (λ(i:Nat) (uv:Value)=>L.length-i) (0) (.slice none 0 0) iw ?hinv2 cC (λw h=>by rw[show bz (L.take 0)=[] from rfl];exact dj h) ?_
  case hinv2=>
   exact⟨Nat.zero_le _,bL.sl⟩
  intro i uv
  rintro⟨j1,j2⟩
  refine aD<|ab rfl (Rd.lss rfl rfl rfl)<|aw ?_
  refine aF<|aE rfl (λhc2=>?_) (λhc2=>?_)
  ·
   have hpl:=gW (L.take i)
   rw[List.length_take] at hpl
   refine ay<|aa<|aF<|WC.block ?_
   refine aD<|ab rfl (dy (enc:=bl) (xs:=L) (k:=i) rfl S38 rfl rfl rfl aK ao) ?_
   refine ab rfl (dM (k:=i) (a:=L[i]!) (cs:=bl L[i]!) (enc:=bl) (xs:=L) rfl G43 rfl aK (λ_=>rfl) (get!_of_lt ao) ba) ?_
   refine aq rfl<|OpW.alloc rfl I43 rfl ba rfl rfl ?_;intro b8
   refine aq rfl<|aM rfl G43 rfl rfl ba bh rfl rfl ba rfl ?_
   refine lE<|af rfl<|ab rfl (by exact ak rfl qn rfl rfl) ?_
   refine ab rfl (by exact ax rfl C9 rfl aK (by rfl)) ?_
   refine ab rfl (by exact ak rfl zQ rfl rfl) ?_
   refine ab rfl (by exact ax rfl C9 rfl aK (by rfl)) ?_
   refine ab rfl (by exact ak rfl uo rfl rfl) ?_
   refine ab rfl (by exact ax rfl C9 rfl aK (by rfl)) ?_
   refine aq rfl<|aX (ps:=[(0,_),(1,_),(2,_)]) rfl S37 aZ rfl rfl fy an rfl rfl rfl ?_;intro b38
   refine aq rfl<|bR (enc:=SL.one vs) rfl S37 rfl rfl bh bh [L[i]!.1,L[i]!.2.1,L[i]!.2.2] rfl (by rfl) rfl ie ie (by exact⟨by simp only[maxLen,List.length_append,List.length_nil,List.length_cons,List.length_drop,List.length_take,List.length_map];omega,by omega⟩) rfl rfl ?_;intro v39 hv39
   refine ar rfl<|aG<|aA<|aa<|aB<|ab rfl (Rd.add rfl rfl rfl ao) ?_
   exact af rfl<|aG<|bC.mk (i+1) v39 ⟨by omega,hv39⟩ ao cC (by rw[sb ao];exact bN)
  ·
   obtain rfl:i=L.length:=by omega
   rw[List.take_length]
   refine WC.heap (λw h=>Sat.eE (xs:=cO t) (v:=sv) (enc:=SL.one vs) bh h) ?_
   refine WC.heap (λw h=>Sat.eE (xs:=bz L) (v:=uv) (enc:=SL.one vs) bh h) ?_
   refine WC.exit<|au.exit<|bC.exit<|aH.exit<|aa<|aF<|WC.drawn (az b1 48 (qe rv lv)::O) 9 rfl mixed ?_
   refine ae 0 rfl an aN rfl rfl rfl ((by exact ak rfl JY rfl rfl)) ?_
   refine ae 1 rfl an aN rfl rfl rfl ((by exact ax rfl C9 rfl aK (by rfl))) ?_
   refine ae 2 rfl an aN rfl rfl rfl (al rfl rfl) ?_
   refine ae 4 rfl an aN rfl rfl rfl (al rfl rfl) ?_
   refine aS 3 rfl an rfl ?_
   refine aj rfl rfl aZ an rfl rfl rfl ?_
   refine eo (l:=cO t) aK ao ?_
   refine⟨aN,?_⟩
   refine aS 5 rfl an rfl ?_
   refine aj rfl rfl aZ an rfl rfl rfl ?_
   refine eo (l:=bz L) aK ao ?_
   refine⟨aN,?_⟩
   refine aS 6 rfl an rfl ?_
   refine aX (ps:=[(0,_),(1,_),(2,_)]) rfl S37 aZ rfl rfl fy an rfl rfl rfl ?_;intro b47
   refine⟨aN,?_⟩
   refine WD.heap (λw h=>Sat.gC (b:=b47) (enc:=SL.one vs) (xs:=[hdM,bD (cO t),bD (bz L)]) bh rfl rfl (show(3:Nat)<=9223372036854775807 by decide) h) ?_
   refine aS 7 rfl an rfl ?_
   refine aj rfl rfl aZ an rfl rfl rfl ?_
   refine eo (l:=[hdM,bD (cO t),bD (bz L)]) aK (by show(pC t L).length<=_;omega) ?_
   refine⟨aN,?_⟩
   refine ae 8 rfl an aN rfl rfl rfl (Rd.assign rfl rfl) ?_
   refine WD.done an ?_
   refine aa<|WC.ret (Ret.one Tryz.results31 rfl ?_)
   exact⟨_,_,hk,bN⟩
set_option maxRecDepth 20000 in
set_option maxHeartbeats 1000000 in
theorem AD{t:List Ref}{L:List Upd}{rv lv:Value}(hx:dQ 1∈R)(hv:SlE encR rv t∈R)(hL:SlE bl lv L∈R)(hok:TOk t L)(hk:POST (.bool true) R O):Fun Tryz.prog 131 #[pL rv lv] R O POST:=by
 have htl:=hok.F0
 have hLl:=hok.len
 refine bp<|aC (l:=[_]) Tryz.func131 rfl Tryz.ntmps131 rfl (L0:=[(0,_)]) rfl ?_
 refine aD<|aq rfl<|OpW.box rfl rfl ba rfl rfl ?_;intro b1
 refine ar rfl<|aw<|bd<|ab rfl (by exact ak rfl mW rfl rfl) ?_
 refine ab rfl (ax (b:=b1) (off:=0) (u:=rv) rfl C46 rfl aK rfl) ?_
 refine ab rfl (bu (enc:=encR) (xs:=t) rfl rfl Tryz.underlying46 aK) ?_
 refine af rfl<|aw<|WC.block ?_
 refine WC.pick [8,1,6,7] eS ?_
 refine WC.iJ 1 (λ(i:Nat)=>[(8,.int .i64 (i:Int))]) (λ(i:Nat)=>az b1 48 (qe rv lv)::O) (λ(i:Nat)=>i<=t.length) (λ(i:Nat)=>t.length-i) (0) iw ?hinv1 cC (λ_ h=>h) ?_
 case hinv1=>
  exact Nat.zero_le _
 intro i
 rintro i1
 refine aD<|ab rfl (Rd.lss rfl rfl rfl)<|aw ?_
 refine aF<|aE rfl (λhc1=>?_) (λhc1=>?_)
 ·
  have hr:=hok.ok _ (fg (l:=t) (i:=i) ao)
  refine ay<|aa<|aF<|WC.block ?_
  refine aD<|af rfl<|ab rfl (dy (enc:=encR) (xs:=t) (k:=i) rfl S46 rfl rfl rfl aK ao) ?_
  refine ab rfl (dM (k:=i) (a:=t[i]!) (cs:=encR t[i]!) (enc:=encR) (xs:=t) rfl zx rfl aK (λ_=>rfl) (get!_of_lt ao) ba) ?_
  refine aq rfl<|OpW.alloc rfl JH rfl ba rfl rfl ?_;intro b4
  refine ar rfl<|aq rfl<|aM rfl zx rfl rfl ba bh rfl rfl ba rfl ?_
  refine aw<|WC.pick [1,3,4,6,7,8] eS ?_
  refine WC.val 38 (.bool (decide False)) ?_ ?_
  ·
   refine WC.drawn (az b4 101 (encR t[i]!)::az b1 48 (qe rv lv)::O) 26 rfl mixed ?_
   refine ae 0 rfl an aN rfl rfl rfl ((by exact ak rfl u6 rfl rfl)) ?_
   refine ae 1 rfl an aN rfl rfl rfl ((by exact ax rfl C9 rfl aK (by rfl))) ?_
   refine aS 2 rfl an rfl ?_
   refine aj rfl rfl aZ an rfl rfl rfl ?_
   refine ra hx hr.1 ?_
   refine⟨aN,?_⟩
   refine ae 3 rfl an aN rfl rfl rfl ((by exact Rd.not rfl rfl)) ?_
   refine WD.say 16 (u:=.bool (decide False)) rfl rfl ?_
   refine ae 4 rfl an aN rfl rfl rfl (al rfl rfl) ?_
   refine WD.case 17 rfl (λhg17=>?_) (λhg17=>?_)
   ·
    exact hg17.elim
   ·
    refine WD.bM 5 rfl an aN rfl rfl rfl rfl rfl rfl ((by exact ak rfl y5 rfl rfl)) ?_
    refine WD.bM 6 rfl an aN rfl rfl rfl rfl rfl rfl ((by exact ax rfl C9 rfl aK (by rfl))) ?_
    refine WD.bM 7 rfl an aN rfl rfl rfl rfl rfl rfl (cg (ts:=#[]) (ty:=0) rfl rfl Tryz.underlying9) ?_
    refine WD.bM 8 rfl an aN rfl rfl rfl rfl rfl rfl (Rd.neq rfl rfl rfl) ?_
    refine ae 9 rfl an aN rfl rfl rfl (aQ rfl rfl rfl) ?_
    refine ae 10 rfl an aN rfl rfl rfl (al rfl rfl) ?_
    refine WD.case 23 rfl (λhg23=>?_) (λhg23=>?_)
    ·
     exact absurd hr.2 ao
    ·
     refine WD.bM 11 rfl an aN rfl rfl rfl rfl rfl rfl (al rfl rfl) ?_
     refine WD.bM 12 rfl an aN rfl rfl rfl rfl rfl rfl (Rd.gtr rfl rfl rfl) ?_
     refine WD.bM 13 rfl an aN rfl rfl rfl rfl rfl rfl (al rfl rfl) ?_
     refine WD.case 26 rfl (λhg26=>?_) (λhg26=>?_)
     ·
      refine WD.bM 14 rfl an aN rfl rfl rfl rfl rfl rfl ((by exact ak rfl u6 rfl rfl)) ?_
      refine WD.bM 15 rfl an aN rfl rfl rfl rfl rfl rfl ((by exact ax rfl C9 rfl aK (by rfl))) ?_
      refine WD.bM 16 rfl an aN rfl rfl rfl rfl rfl rfl ((by exact ak rfl mW rfl rfl)) ?_
      refine WD.bM 17 rfl an aN rfl rfl rfl rfl rfl rfl (ax (b:=b1) (off:=0) (u:=rv) rfl C46 rfl aK rfl) ?_
      refine WD.bM 18 rfl an aN rfl rfl rfl rfl rfl rfl (al rfl rfl) ?_
      refine WD.bM 19 rfl an aN rfl rfl rfl rfl rfl rfl (Rd.sub rfl rfl rfl ao) ?_
      refine WD.bM 20 rfl an aN rfl rfl rfl rfl rfl rfl (dy (enc:=encR) (xs:=t) (k:=i-1) rfl S46 rfl rfl ao aK ao) ?_
      refine WD.bM 21 rfl an aN rfl rfl rfl rfl rfl rfl ((by exact kb rfl u6 rfl aK ao)) ?_
      refine WD.bM 22 rfl an aN rfl rfl rfl rfl rfl rfl (oK (enc:=encR) (size:=2) (xs:=t) (k:=i-1) (f:=0) (a:=t[i-1]!) (u:=vs t[i-1]!.1) rfl C9 rfl aK (λx=>rfl) ao (get!_of_lt ao) rfl) ?_
      refine WD.bM 23 rfl an aN rfl rfl rfl rfl rfl rfl (KI rfl rfl rfl) ?_
      refine WD.bM 24 rfl an aN rfl rfl rfl rfl rfl rfl (aY rfl rfl rfl) ?_
      refine ae 25 rfl an aN rfl rfl rfl (aQ rfl rfl rfl) ?_
      refine WD.done an ?_
      exact⟨by repeat(first|exact Sub.nil|refine Sub.cons rfl (by first|rfl|(exact vb ⟨λh=>h (by have:=Cw hok.asc (x:=i-1) (y:=i) ao ao;exact this),False.elim⟩)) ?_),by exact(λ_ h=>h.thin (cB.mem cz))⟩
     ·
      refine WD.jm 14 rfl an aN rfl rfl rfl rfl rfl rfl ?_
      refine WD.jm 15 rfl an aN rfl rfl rfl rfl rfl rfl ?_
      refine WD.jm 16 rfl an aN rfl rfl rfl rfl rfl rfl ?_
      refine WD.jm 17 rfl an aN rfl rfl rfl rfl rfl rfl ?_
      refine WD.jm 18 rfl an aN rfl rfl rfl rfl rfl rfl ?_
      refine WD.jm 19 rfl an aN rfl rfl rfl rfl rfl rfl ?_
      refine WD.jm 20 rfl an aN rfl rfl rfl rfl rfl rfl ?_
      refine WD.jm 21 rfl an aN rfl rfl rfl rfl rfl rfl ?_
      refine WD.jm 22 rfl an aN rfl rfl rfl rfl rfl rfl ?_
      refine WD.jm 23 rfl an aN rfl rfl rfl rfl rfl rfl ?_
      refine WD.bM 24 rfl an aN rfl rfl rfl rfl rfl rfl (aQ rfl rfl rfl) ?_
      refine ae 25 rfl an aN rfl rfl rfl (aQ rfl rfl rfl) ?_
      refine WD.done an ?_
      exact⟨by repeat(first|exact Sub.nil|refine Sub.cons rfl (by rfl) ?_),by exact(λ_ h=>h.thin (cB.mem cz))⟩
  ·
   refine aE rfl (λhc2=>?_) (λhc2=>?_)
   ·
    exact hc2.elim
   ·
    refine ay<|aA<|aa<|aB<|ab rfl (Rd.add rfl rfl rfl ao) ?_
    exact af rfl<|aG<|bq.mk (i+1) ao ao cC bN
 ·
  refine WC.exit<|au.exit<|bq.exit<|aH.exit<|aa<|aD<|ab rfl (by exact ak rfl JY rfl rfl) ?_
  refine ab rfl (by exact ax rfl C9 rfl aK (by rfl)) ?_
  refine aq rfl<|aj rfl rfl aZ an rfl rfl rfl ?_
  refine wU hx ?_
  refine aU 42 (u:=.bool (decide True)) rfl (by simp) ?_
  refine af rfl<|WL.case 43 rfl (λhg43=>?_) (λhg43=>?_)
  ·
   refine aT rfl (by exact ak rfl oZ rfl rfl) ?_
   refine aT rfl (ax (b:=b1) (off:=2) (u:=lv) rfl C38 rfl aK rfl) ?_
   refine aT rfl (bu (enc:=bl) (xs:=L) rfl rfl Tryz.underlying38 aK) ?_
   refine aT rfl (Rd.leq rfl rfl rfl)<|ab rfl (aY rfl rfl rfl)<|af rfl<|WL.case 49 rfl (λhg49=>?_) (λhg49=>?_)
   ·
    refine aT rfl (by exact ak rfl oZ rfl rfl) ?_
    refine aT rfl (ax (b:=b1) (off:=2) (u:=lv) rfl C38 rfl aK rfl) ?_
    refine WL.c4 rfl rfl rfl rfl<|aj rfl rfl aZ an rfl rfl rfl ?_
    refine w9 hL an (λu hu O POST hk=>Fz hx (hok.log u hu) hk) ?_
    refine aT rfl (by exact Rd.not rfl rfl) ?_
    refine ab rfl (aY rfl rfl rfl)<|ar rfl<|aw<|WC.ret (Ret.one Tryz.results131 rfl ?_)
    exact⟨_,_,hk,bN⟩
   ·
    omega
  ·
   exact absurd trivial hg43
set_option maxRecDepth 20000 in
theorem uQ{v:Value}{n:Nat}(hv:bL v)(hn:0<n)(hk: ∀b1 b2,POST (.func (.func 184) #[] #[.pointer (some ⟨b1,0,none⟩),.pointer (some ⟨b2,0,none⟩)]) R (az b1 37 [v]::az b2 3 [.int .i64 (n:Int)]::O)):Fun Tryz.prog 130 #[v,.int .i64 (n:Int)] R O POST:=by
 refine bp<|aC (l:=[_,_]) Tryz.func130 rfl Tryz.ntmps130 rfl (L0:=[(0,_),(1,_)]) rfl ?_
 refine aD<|aq rfl<|n3 rfl rfl (by assumption) rfl rfl ?_;intro b2
 refine aq rfl<|n3 rfl rfl (by exact⟨rfl,rfl⟩) rfl rfl ?_;intro b3
 refine ar rfl<|aw<|bd<|ab rfl (by exact ax rfl C3 rfl aK (by rfl)) ?_
 refine ab rfl (Rd.lss rfl rfl rfl)<|aw<|aE rfl (λhc1=>?_) (λhc1=>?_)
 ·
  omega
 ·
  refine ay<|aa<|aD<|ab rfl (Rd.func rfl aZ aZ ⟨_,rfl⟩) ?_
  refine ar rfl<|aw<|WC.ret (Ret.one Tryz.results130 rfl ?_)
  exact⟨_,_,hk b2 b3,bN⟩
set_option maxRecDepth 20000 in
theorem Ag{γ:Type}{g0:γ}{v:Value}{xs:List Tx}{b1 b2 l n m:Nat}{c1:Own}{I:Nat->γ->List Own}(hx:SlE (SL.one vs) v xs∈R)(hl:xs.length=m*n)(hn:0<n)(hm:m*n<=100000)(hb1: ∀j g,az b1 37 [v]∈c1::I j g)(hb2: ∀j g,az b2 3 [.int .i64 (n:Int)]∈c1::I j g)
 (hY: ∀j g,j<m->Yld Tryz.prog l [A6 v 1 (j*n) (j*n+n)] (SlE (SL.one vs) (A6 v 1 (j*n) (j*n+n)) ((xs.take (j*n+n)).drop (j*n))::R) (c1::I j g) (λt R' O'=>t=true/\ ∃g',∀w,Sat R' O' w->Sat R (c1::I (j+1) g') w))
 (hE: ∀g,POST (.tuple #[]) R (c1::I m g)):Fun Tryz.prog 184 #[.func (.yield l) #[] #[],.pointer (some ⟨b1,0,none⟩),.pointer (some ⟨b2,0,none⟩)] R (c1::I 0 g0) POST:=by
 refine bp<|mU (l:=[_,_,_]) Tryz.func184 rfl Tryz.ntmps184 rfl (L0:=[(0,_),(1,_),(2,_)]) rfl ?_
 refine WR.seq<|WR.region<|ar rfl<|aG<|cx.normal<|WR.block ?_
 refine WR.pick [4,0,1,2] eS ?_
 refine WR.ia 1 (λ(j:Nat) (g:γ)=>[(4,.int .i64 ((j*n:Nat):Int))]) (λ(j:Nat) (g:γ)=>c1::I j g) (λ(j:Nat) (g:γ)=>j<=m) (λ(j:Nat) (g:γ)=>m-j) (0) (g0) iw ?hinv1 (by repeat(first|exact Sub.nil|refine Sub.cons rfl (by first|rfl|(congr 1;omega)) ?_)) (λ_ h=>h) ?_
 case hinv1=>
  exact Nat.zero_le _
 intro j g
 rintro i1
 refine WR.seq<|WR.seq<|WR.region<|af rfl<|ab rfl (ax (off:=0) (u:=v) rfl C37 rfl (hb1 j g) rfl) ?_
 refine ab rfl (bu (enc:=SL.one vs) (xs:=xs) rfl rfl Tryz.underlying37 hx) ?_
 refine ab rfl (Rd.lss rfl rfl rfl)<|aG<|cx.normal<|WR.ite rfl (λhc1=>?_) (λhc1=>?_)
 ·
  have hjm:j<m:=by
   rcases Nat.lt_or_ge j m with h|h
   ·exact h
   ·have:=Nat.mul_le_mul_right n h;omega
  have hjn:j*n+n<=m*n:=by have:=Nat.mul_le_mul_right n (show j+1<=m by omega);rw[Nat.add_mul,Nat.one_mul] at this;exact this
  have hj1:(j+1)*n=j*n+n:=by rw[Nat.add_mul,Nat.one_mul]
  refine WR.heap (λw h=>h.derive (q:=SlE (SL.one vs) (dW v 1 (j*n) xs.length) (xs.drop (j*n))) (λw hw=>BC (enc:=SL.one vs) (size:=1) (v:=v) (xs:=xs) (lo:=j*n) (λ_=>rfl) ao (hw _ hx))) ?_
  refine WR.skip<|cx.normal<|WR.seq<|WR.block ?_
  refine WR.seq<|WR.mL 7 rfl mixed<|ae 0 rfl an bw.all rfl rfl rfl (ax (off:=0) (u:=.int .i64 (n:Int)) rfl C3 rfl (hb2 j g) rfl) ?_
  refine ae 1 rfl an bw.all rfl rfl rfl (ax (off:=0) (u:=v) rfl C37 rfl (hb1 j g) rfl) ?_
  refine ae 2 rfl an bw.all rfl rfl rfl (al rfl rfl) ?_
  refine ae 3 rfl an bw.all rfl rfl rfl (BD (enc:=SL.one vs) (xs:=xs) (lo:=j*n) rfl S37 rfl rfl rfl (List.mem_cons_of_mem _ hx) ao) ?_
  refine ae 4 rfl an bw.all rfl rfl rfl (bu (enc:=SL.one vs) (xs:=xs.drop (j*n)) rfl rfl Tryz.underlying37 List.mem_cons_self) ?_
  refine ae 5 rfl an bw.all rfl rfl rfl (jn rfl rfl rfl) ?_
  refine WD.say 18 (u:=.int .i64 (n:Int)) rfl (by rw[List.length_drop,hl];(congr 1;omega)) ?_
  refine ae 6 rfl an bw.all rfl rfl rfl (Rd.assign rfl rfl) ?_
  refine WD.done an ?_
  refine cx.normal<|WR.seq<|jg<|WY.rd rfl rfl rfl (al rfl rfl)<|WY.rd rfl rfl rfl (ax (off:=0) (u:=v) rfl C37 rfl (hb1 j g) rfl) ?_
  refine WY.rd rfl rfl rfl (al rfl rfl)<|WY.rd rfl rfl rfl (al rfl rfl)<|WY.rd rfl rfl rfl (al rfl rfl)<|WY.rd rfl rfl rfl (Rd.add rfl rfl rfl ao) ?_
  refine WY.rd rfl rfl rfl (al rfl rfl)<|WY.rd rfl rfl rfl (al rfl rfl)<|WY.rd rfl rfl rfl (Rd.add rfl rfl rfl ao) ?_
  refine WY.rd rfl rfl rfl (Rd.OY (enc:=SL.one vs) (xs:=xs) (lo:=j*n) (hi:=j*n+n) rfl S37 rfl rfl rfl rfl rfl (by push_cast;rfl) (by push_cast;rfl) (List.mem_cons_of_mem _ hx) ao ao) ?_
  refine WY.heap (R':=SlE (SL.one vs) (A6 v 1 (j*n) (j*n+n)) ((xs.take (j*n+n)).drop (j*n))::R) (O':=c1::I j g) (λw h=>(h.derive (q:=SlE (SL.one vs) (A6 v 1 (j*n) (j*n+n)) ((xs.take (j*n+n)).drop (j*n))) (λw hw=>SlE.OY (enc:=SL.one vs) (size:=1) (v:=v) (xs:=xs) (λ_=>rfl) ao ao (hw _ (List.mem_cons_of_mem _ hx)))).thin (λp hp=>by
  rcases List.mem_cons.1 hp with rfl|hp
  ·exact List.mem_cons_self
  ·exact List.mem_cons_of_mem _ (List.mem_cons_of_mem _ hp))) ?_
  refine WY.yield rfl rfl rfl aZ rfl rfl ?_
  refine(hY j g hjm).mono ?_;rintro b' R' O' ⟨rfl,g2,hS⟩;refine WY.heap hS ?_
  refine WY.rd rfl rfl rfl ((by exact Rd.not rfl rfl)) ?_
  refine WY.nil<|cx.normal<|WR.cond rfl (λhc2=>?_) (λhc2=>?_)
  ·
   cases hc2
  ·
   refine WR.skip<|aA<|cx.normal<|WR.region<|af rfl<|ab rfl (ax (off:=0) (u:=.int .i64 (n:Int)) rfl C3 rfl (hb2 (j+1) g2) rfl) ?_
   refine ab rfl (Rd.add rfl rfl rfl ao) ?_
   exact ar rfl<|aG<|bC.mk (j+1) g2 ao ao (by rw[hj1];push_cast;exact cC) (λ_ h=>h)
 ·
  obtain rfl:j=m:=by
   rcases Nat.lt_or_ge j m with h|h
   ·have:=Nat.mul_le_mul_right n (show j+1<=m by omega);rw[Nat.add_mul,Nat.one_mul] at this;omega
   ·omega
  refine WR.exit<|cx.exit<|bC.exit<|aH.exit<|Ret.normal (Ret.zero Tryz.results184 ?_)
  exact⟨_,_,hE g,λw h=>h⟩
end
end Go.Proofs.YtebpkhlifcffnaaGreatDoor.Fs
namespace Go.Proofs.YtebpkhlifcffnaaGreatDoor.Fs
open Go Go.SL
theorem Di{l:List Upd}{j:Nat}(h:j<l.length):(bz l)[j*3]? =some l[j]!.1/\(bz l)[j*3+1]? =some l[j]!.2.1/\(bz l)[j*3+2]? =some l[j]!.2.2:=by
 induction l generalizing j with
 |nil=>exact absurd h (Nat.not_lt_zero _)
 |cons u l ih=>
  cases j with
  |zero=>exact⟨rfl,rfl,rfl⟩
  |succ j=>
   have e:(u::l)[j+1]! =l[j]! :=by simp
   have h2:j<l.length:=by simp at h;omega
   rw[e]
   obtain⟨a,b,c⟩:=ih h2
   have e0:bz (u::l)=u.1::u.2.1::u.2.2::bz l:=rfl
   rw[e0,show(j+1)*3=j*3+1+1+1 by omega]
   exact⟨a,b,c⟩
theorem qg{l:List Upd}(h: ∀u∈l,ym u)(hl:l.length<=120):(bD (bz l)).length<=11880/\(sB l).length<=11920/\Small (bz l)/\Small [[],bD (bz l)]:=by
 obtain⟨h1,h2⟩:=Ir h hl
 refine⟨by omega,by omega,uP (oh h),λx hx=>?_⟩
 simp only[List.mem_cons,List.not_mem_nil,or_false] at hx
 rcases hx with rfl|rfl
 ·exact Nat.zero_le _
 ·omega
def Ro(f:Bool)(k:UInt8)(body:Tx)(t:List Ref)(L:List Upd)(t2:List Ref)(L2:List Upd):Prop:=
 (f=true/\k=1/\body=pC t2 L2/\TOk t2 L2)∨(f=false/\k=2/\ ∃u,body=sB u/\lW t u/\TOk t L/\L.length+u.length<=120/\t2=eZ t u/\L2=L++u)
abbrev eF(s:Nat)(rv:Value)(hd:Tx)(lv:Value)(size:Nat):List Value:=[dp s,rv,vs hd,lv,.int .i64 (size:Int)]
section
variable{R:List RO}{O O':List Own}{POST:Value->List RO->List Own->Prop}
set_option maxRecDepth 20000 in
set_option maxHeartbeats 1000000 in
theorem yu{l:List Upd}(h: ∀u∈l,ym u)(hl:l.length<=120)(hk: ∀v,bL v->POST (.tuple #[v,vs [],.int .i64 0]) (SlE bl v l::R) O):Fun Tryz.prog 73 #[vs (sB l)] R O POST:=by
 obtain⟨h1,h2,h3,h4⟩:=qg h hl
 have h5:=gW l
 refine bp<|aC (l:=[_]) Tryz.func73 rfl Tryz.ntmps73 rfl (L0:=[(0,_)]) rfl ?_
 refine aD<|ar rfl<|ar rfl<|ar rfl<|a7<|af rfl ?_
 refine aq rfl<|aj rfl rfl aZ an rfl rfl rfl ?_
 refine kK (l:=[[],bD (bz l)]) h4 rfl ao ?_;intro v12
 refine af rfl<|bH rfl<|bH rfl<|ar rfl<|ar rfl<|aw<|bd<|af rfl<|ab rfl (Rd.neq rfl rfl rfl)<|aw<|aE rfl (λhc1=>?_) (λhc1=>?_)
 ·
  exact absurd rfl hc1
 ·
  refine ay<|aa<|bd<|af rfl<|ab rfl (bu (enc:=SL.one vs) (xs:=[[],bD (bz l)]) rfl rfl Tryz.underlying37 aK) ?_
  refine ab rfl (Rd.neq rfl rfl rfl)<|aw<|aE rfl (λhc2=>?_) (λhc2=>?_)
  ·
   exact absurd rfl hc2
  ·
   refine ay<|aa<|aD<|af rfl<|ab rfl (c9 (enc:=SL.one vs) (xs:=[[],bD (bz l)]) (k:=1) rfl S37 rfl rfl rfl aK (show 1<2 by decide)) ?_
   refine ab rfl (Rd.get (g:=vs) (xs:=[[],bD (bz l)]) (k:=1) (a:=bD (bz l)) rfl C9 rfl aK rfl) ?_
   refine aq rfl<|aj rfl rfl aZ an rfl rfl rfl ?_
   refine kK (l:=bz l) h3 rfl ao ?_;intro v25
   refine af rfl<|bH rfl<|bH rfl<|ar rfl<|ar rfl<|aw<|bd<|af rfl<|ab rfl (Rd.neq rfl rfl rfl)<|aw<|aE rfl (λhc3=>?_) (λhc3=>?_)
   ·
    exact absurd rfl hc3
   ·
    refine ay<|aa<|bd<|af rfl<|ab rfl (bu (enc:=SL.one vs) (xs:=bz l) rfl rfl Tryz.underlying37 aK) ?_
    refine ab rfl (gL (a:=(bz l).length) (b:=3) rfl rfl rfl rfl rfl ct) ?_
    refine ab rfl (Rd.neq rfl rfl rfl)<|aw<|aE rfl (λhc4=>?_) (λhc4=>?_)
    ·
     exact absurd hc4 (λq=>q (by rw[h5];omega))
    ·
     refine ay<|aa<|aF<|WC.heap (R':=SlE (SL.one vs) v25 (bz l)::SlE (SL.one vs) v12 [[],bD (bz l)]::R) (O':=bt 43 3 bl (.slice none 0 0) []::O) (λw h=>by have:=Sat.dH (e:=43) (size:=3) (enc:=bl) h;exact dj this) ?_
     refine aB<|ar rfl<|aw<|bd<|ar rfl<|aw<|WC.block ?_
     refine WC.pick [8,9,5,7] eS ?_
     refine WC.ia 2 (λ(j:Nat) (ov:Value)=>[(8,ov),(9,.int .i64 ((j*3:Nat):Int))]) (λ(j:Nat) (ov:Value)=>bt 43 3 bl ov (l.take j)::O) (λ(j:Nat) (ov:Value)=>j<=l.length/\bL ov) (λ(j:Nat) (ov:Value)=>l.length-j) (0) (.slice none 0 0) iw ?hinv1 cC (λ_ h=>h) ?_
     case hinv1=>
      exact⟨Nat.zero_le _,bL.sl⟩
     intro j ov
     rintro⟨i1,i2⟩
     refine bd<|af rfl<|af rfl<|ab rfl (bu (enc:=SL.one vs) (xs:=bz l) rfl rfl Tryz.underlying37 aK) ?_
     refine ab rfl (Rd.lss rfl rfl rfl)<|aw<|aE rfl (λhc5=>?_) (λhc5=>?_)
     ·
      have hj:j<l.length:=by omega
      obtain⟨g1,g2,g3⟩:=Di hj
      have hlt:(l.take j).length<=120:=by rw[List.length_take];omega
      refine ay<|aa<|aF<|WC.block ?_
      refine WC.drawn (O) 19 rfl mixed ?_
      refine ae 0 rfl an aN rfl rfl rfl (al rfl rfl) ?_
      refine ae 1 rfl an aN rfl rfl rfl (al rfl rfl) ?_
      refine ae 2 rfl an aN rfl rfl rfl (al rfl rfl) ?_
      refine ae 3 rfl an aN rfl rfl rfl (c9 (enc:=SL.one vs) (xs:=bz l) (k:=j*3) rfl S37 rfl rfl rfl aK ao) ?_
      refine ae 4 rfl an aN rfl rfl rfl (Rd.get (g:=vs) (xs:=bz l) (k:=j*3) (a:=l[j]!.1) rfl C9 rfl aK g1) ?_
      refine ae 5 rfl an aN rfl rfl rfl (al rfl rfl) ?_
      refine ae 6 rfl an aN rfl rfl rfl (al rfl rfl) ?_
      refine ae 7 rfl an aN rfl rfl rfl (Rd.add rfl rfl rfl ao) ?_
      refine ae 8 rfl an aN rfl rfl rfl (c9 (enc:=SL.one vs) (xs:=bz l) (k:=j*3+1) rfl S37 rfl rfl (by push_cast;rfl) aK ao) ?_
      refine ae 9 rfl an aN rfl rfl rfl (Rd.get (g:=vs) (xs:=bz l) (k:=j*3+1) (a:=l[j]!.2.1) rfl C9 rfl aK g2) ?_
      refine ae 10 rfl an aN rfl rfl rfl (al rfl rfl) ?_
      refine ae 11 rfl an aN rfl rfl rfl (al rfl rfl) ?_
      refine ae 12 rfl an aN rfl rfl rfl (Rd.add rfl rfl rfl ao) ?_
      refine ae 13 rfl an aN rfl rfl rfl (c9 (enc:=SL.one vs) (xs:=bz l) (k:=j*3+2) rfl S37 rfl rfl (by push_cast;rfl) aK ao) ?_
      refine ae 14 rfl an aN rfl rfl rfl (Rd.get (g:=vs) (xs:=bz l) (k:=j*3+2) (a:=l[j]!.2.2) rfl C9 rfl aK g3) ?_
      refine ae 15 rfl an aN rfl rfl rfl (bO (ps:=[(0,_),(1,_),(2,_)]) rfl Ps I43 rfl aZ fy (by apply NFo.mk;repeat(first|exact NF.nil|apply NF.cons))) ?_
      refine aS 16 rfl an rfl ?_
      refine aX (ps:=[(0,_)]) rfl S38 aZ rfl rfl fy an rfl rfl rfl ?_;intro b57
      refine⟨aN,?_⟩
      refine aS 17 rfl an rfl ?_
      refine bR (enc:=bl) rfl S38 rfl rfl bh bh [l[j]!] rfl (by rfl) rfl ie ie (by exact⟨by simp only[maxLen,List.length_append,List.length_nil,List.length_cons,List.length_drop,List.length_take,List.length_map];omega,by omega⟩) rfl rfl ?_;intro v58 hv58
      refine⟨aN,?_⟩
      refine ae 18 rfl an aN rfl rfl rfl (Rd.assign rfl rfl) ?_
      refine WD.done an ?_
      refine aA<|aa<|aB<|af rfl<|ab rfl (Rd.add rfl rfl rfl ao) ?_
      exact ar rfl<|aG<|bC.mk (j+1) v58 ⟨by omega,hv58⟩ ao (by rw[show(j+1)*3=j*3+3 by omega];exact cC) (by rw[vq hj];exact bN)
     ·
      obtain rfl:j=l.length:=by omega
      rw[List.take_length]
      refine WC.heap (λw h=>Sat.eE (xs:=l) (v:=ov) (enc:=bl) bh h) ?_
      refine WC.exit<|au.exit<|bC.exit<|aH.exit<|aa<|aF<|WC.still mixed an ?_
      refine dP rfl (al rfl rfl)<|dP rfl (al rfl rfl)<|dP rfl (c9 (enc:=SL.one vs) (xs:=[[],bD (bz l)]) (k:=0) rfl S37 rfl rfl rfl aK (show 0<2 by decide)) ?_
      refine dP rfl (Rd.get (g:=vs) (xs:=[[],bD (bz l)]) (k:=0) (a:=[]) rfl C9 rfl aK rfl) ?_
      refine dP rfl (Rd.assign rfl rfl)<|dP rfl (Rd.assign rfl rfl)<|dP rfl (Rd.assign rfl rfl)<|WA.nil<|aa<|WC.ret (dn Tryz.results73 rfl rfl rfl ?_)
      exact⟨_,_,hk ov i2,bN⟩
end
end Go.Proofs.YtebpkhlifcffnaaGreatDoor.Fs
namespace Go.Proofs.YtebpkhlifcffnaaGreatDoor.Fs
open Go Go.SL
theorem N3{v:Value}{xs:List Tx}{w:World}(h:SlE (SL.one vs) v xs w): ∃d:Option Addr×Nat×Nat,v= .slice d.1 d.2.1 d.2.2:=by
 obtain⟨o,c,h,_⟩:=h
 exact⟨(o,_,c),h⟩
theorem Ig{v:Value}{xs:List Ref}{w:World}(h:SlE encR v xs w): ∃d:Option Addr×Nat×Nat,v= .slice d.1 d.2.1 d.2.2:=by
 obtain⟨o,c,h,_⟩:=h
 exact⟨(o,_,c),h⟩
section
variable{R:List RO}{O O':List Own}{POST:Value->List RO->List Own->Prop}
set_option maxRecDepth 20000 in
set_option maxHeartbeats 2000000 in
theorem A0{t:List Ref}{L:List Upd}(hx:dQ 1∈R)(hok:TOk t L)
 (hk: ∀rv lv,bL rv->bL lv->POST (.tuple #[pL rv lv,.int .i64 0]) (SlE encR rv t::SlE bl lv L::R) O):Fun Tryz.prog 72 #[vs (pC t L)] R O POST:=by
 have htl:=hok.F0
 have hLl:=hok.len
 obtain⟨hj1,hj2,hj3⟩:=hok.join
 have hp1:=py t
 have hp2:=gW L
 refine bp<|aC (l:=[_]) Tryz.func72 rfl Tryz.ntmps72 rfl (L0:=[(0,_)]) rfl ?_
 refine aD<|aq rfl<|OpW.alloc rfl I48 rfl ba rfl rfl ?_;intro b2
 refine ar rfl<|a7<|af rfl<|aq rfl<|aj rfl rfl aZ an rfl rfl rfl ?_
 refine kK (l:=[hdM,bD (cO t),bD (bz L)]) (λx hx=>by simp only[List.mem_cons,List.not_mem_nil,or_false] at hx;rcases hx with rfl|rfl|rfl;exact ct;omega;omega) rfl ao ?_;intro v13
 refine af rfl<|bH rfl<|bH rfl<|ar rfl<|ar rfl<|aw<|bd<|af rfl<|ab rfl (Rd.neq rfl rfl rfl)<|aw<|aE rfl (λhc1=>?_) (λhc1=>?_)
 ·
  exact absurd rfl hc1
 ·
  refine ay<|aa<|bd<|af rfl<|ab rfl (bu (enc:=SL.one vs) (xs:=[hdM,bD (cO t),bD (bz L)]) rfl rfl Tryz.underlying37 aK) ?_
  refine ab rfl (Rd.neq rfl rfl rfl)<|aw<|aE rfl (λhc2=>?_) (λhc2=>?_)
  ·
   exact absurd rfl hc2
  ·
   refine ay<|aa<|aD<|af rfl<|ab rfl (c9 (enc:=SL.one vs) (xs:=[hdM,bD (cO t),bD (bz L)]) (k:=1) rfl S37 rfl rfl rfl aK (show 1<3 by decide)) ?_
   refine ab rfl (Rd.get (g:=vs) (xs:=[hdM,bD (cO t),bD (bz L)]) (k:=1) (a:=bD (cO t)) rfl C9 rfl aK rfl) ?_
   refine aq rfl<|aj rfl rfl aZ an rfl rfl rfl ?_
   refine kK (l:=cO t) (uP (wF hok.ok)) rfl ao ?_;intro v28
   refine af rfl<|bH rfl<|bH rfl<|ar rfl<|ar rfl<|aw<|bd<|af rfl<|ab rfl (Rd.neq rfl rfl rfl)<|aw<|aE rfl (λhc3=>?_) (λhc3=>?_)
   ·
    exact absurd rfl hc3
   ·
    refine ay<|aa<|aD<|af rfl<|ab rfl (c9 (enc:=SL.one vs) (xs:=[hdM,bD (cO t),bD (bz L)]) (k:=2) rfl S37 rfl rfl rfl aK (show 2<3 by decide)) ?_
    refine ab rfl (Rd.get (g:=vs) (xs:=[hdM,bD (cO t),bD (bz L)]) (k:=2) (a:=bD (bz L)) rfl C9 rfl aK rfl) ?_
    refine aq rfl<|aj rfl rfl aZ an rfl rfl rfl ?_
    refine kK (l:=bz L) (uP (oh hok.log)) rfl ao ?_;intro v39
    refine af rfl<|bH rfl<|bH rfl<|ar rfl<|ar rfl<|aw<|bd<|af rfl<|ab rfl (Rd.neq rfl rfl rfl)<|aw<|aE rfl (λhc4=>?_) (λhc4=>?_)
    ·
     exact absurd rfl hc4
    ·
     refine ay<|aa<|bd<|af rfl<|ab rfl (bu (enc:=SL.one vs) (xs:=cO t) rfl rfl Tryz.underlying37 aK) ?_
     refine ab rfl (gL (a:=(cO t).length) (b:=2) rfl rfl rfl rfl rfl ct) ?_
     refine ab rfl (Rd.neq rfl rfl rfl)<|af rfl<|WL.case 50 rfl (λhg50=>?_) (λhg50=>?_)
     ·
      exact absurd hg50 (λq=>q (by rw[hp1];omega))
     ·
      refine aT rfl (al rfl rfl)<|aT rfl (bu (enc:=SL.one vs) (xs:=bz L) rfl rfl Tryz.underlying37 aK) ?_
      refine aT rfl (gL (a:=(bz L).length) (b:=3) rfl rfl rfl rfl rfl ct) ?_
      refine aT rfl (Rd.neq rfl rfl rfl)<|ab rfl (aQ rfl rfl rfl)<|aw<|aE rfl (λhc5=>?_) (λhc5=>?_)
      ·
       exact absurd hc5 (λq=>q (by rw[hp2];omega))
      ·
       refine ay<|aa<|aD<|af rfl<|ab rfl (c9 (enc:=SL.one vs) (xs:=[hdM,bD (cO t),bD (bz L)]) (k:=0) rfl S37 rfl rfl rfl aK (show 0<3 by decide)) ?_
       refine ab rfl (Rd.get (g:=vs) (xs:=[hdM,bD (cO t),bD (bz L)]) (k:=0) (a:=hdM) rfl C9 rfl aK rfl) ?_
       refine ab rfl (bO (ps:=[(1,_)]) rfl FY I48 rfl aZ fy (by apply NFo.mk;repeat(first|exact NF.nil|apply NF.cons))) ?_
       refine aq rfl<|OpW.alloc rfl I48 rfl ba rfl rfl ?_;intro b8
       refine aq rfl<|aM rfl G48 rfl rfl ba bh rfl rfl ba rfl ?_
       refine aw<|WC.pK<|WC.oR (p:=SlE (SL.one vs) v28 (cO t)) aK (λw h=>N3 h) ?_
       rintro⟨⟨d1,d2,d3⟩,rfl⟩
       refine WC.oR (p:=SlE (SL.one vs) v39 (bz L)) aK (λw h=>N3 h) ?_
       rintro⟨⟨e1,e2,e3⟩,rfl⟩
       refine WC.heap (R':=SlE (SL.one vs) (.slice d1 d2 d3) (cO t)::SlE (SL.one vs) (.slice e1 e2 e3) (bz L)::R) (O':=bt 101 2 encR (.slice none 0 0) []::bt 43 3 bl (.slice none 0 0) []::az b8 48 [.slice none 0 0,vs hdM,.slice none 0 0]::az b2 48 oV::O) (λw h=>by
        have h2:=Sat.dH (e:=43) (size:=3) (enc:=bl) h
        have h3:=Sat.dH (e:=101) (size:=2) (enc:=encR) h2
        exact dj h3) ?_
       refine aB<|af rfl<|aq rfl<|aj rfl rfl aZ an rfl rfl rfl ?_
       refine uQ (v:=.slice d1 d2 d3) (n:=2) bL.sl ct ?_;intro b62 c62
       refine aG<|pD.normal<|iy.mk rfl an ?_
       intro l0 D0
       refine Fun.heap (O':=recC l0 _ _ D0 .ready none _ _ _::az b8 48 [.slice none 0 0,vs hdM,.slice none 0 0]::bt 101 2 encR (.slice none 0 0) (t.take 0)::az b62 37 [.slice d1 d2 d3]::az c62 3 [.int .i64 ((2:Nat):Int)]::dfC D0::bt 43 3 bl (.slice none 0 0) []::az b2 48 oV::O) bN ?_
       refine Ag (g0:=Value.slice none 0 0) (I:=λj v=>az b8 48 [v,vs hdM,.slice none 0 0]::bt 101 2 encR v (t.take j)::az b62 37 [.slice d1 d2 d3]::az c62 3 [.int .i64 ((2:Nat):Int)]::dfC D0::bt 43 3 bl (.slice none 0 0) []::az b2 48 oV::O) (m:=t.length) (n:=2) (xs:=cO t) aK (by rw[hp1];omega) ct ao (λj g=>aK) (λj g=>aK) ?round ?after
       case round=>
        intro j v hj
        rw[Gh hj]
        have hjl:(t.take j).length<=5:=by rw[List.length_take];omega
        refine Yld.round bh rfl rfl rfl ?_
        refine WR.region<|ar rfl<|aG<|mK.mk bh ?_
        refine WR.block ?_
        refine WR.o9 (O) ([(12,az b8 48 [v,vs hdM,.slice none 0 0])]) 13 rfl mixed ?_
        refine WE.take 0 [] rfl an jE (aP [az b8 48 [v,vs hdM,.slice none 0 0]] an cz dI fk) rfl rfl rfl ((by exact ak rfl mW rfl rfl)) ?_
        refine WE.take 1 [(12,az b8 48 [v,vs hdM,.slice none 0 0])] rfl an jE (aP [az b8 48 [v,vs hdM,.slice none 0 0]] an cz dI fk) rfl rfl rfl (ax (b:=b8) (off:=0) (u:=v) rfl C46 rfl aK rfl) ?_
        refine WE.take 2 [] rfl an jE (aP [az b8 48 [v,vs hdM,.slice none 0 0]] an cz dI fk) rfl rfl rfl (al rfl rfl) ?_
        refine WE.take 3 [] rfl an jE (aP [az b8 48 [v,vs hdM,.slice none 0 0]] an cz dI fk) rfl rfl rfl (c9 (enc:=SL.one vs) (xs:=[t[j]!.1,t[j]!.2]) (k:=0) rfl S37 rfl rfl rfl aK (show 0<2 by decide)) ?_
        refine WE.take 4 [(12,az b8 48 [v,vs hdM,.slice none 0 0])] rfl an jE (aP [az b8 48 [v,vs hdM,.slice none 0 0]] an cz dI fk) rfl rfl rfl (Rd.get (g:=vs) (xs:=[t[j]!.1,t[j]!.2]) (k:=0) (a:=t[j]!.1) rfl C9 rfl aK rfl) ?_
        refine WE.take 5 [] rfl an jE (aP [az b8 48 [v,vs hdM,.slice none 0 0]] an cz dI fk) rfl rfl rfl (al rfl rfl) ?_
        refine WE.take 6 [] rfl an jE (aP [az b8 48 [v,vs hdM,.slice none 0 0]] an cz dI fk) rfl rfl rfl (c9 (enc:=SL.one vs) (xs:=[t[j]!.1,t[j]!.2]) (k:=1) rfl S37 rfl rfl rfl aK (show 1<2 by decide)) ?_
        refine WE.take 7 [(12,az b8 48 [v,vs hdM,.slice none 0 0])] rfl an jE (aP [az b8 48 [v,vs hdM,.slice none 0 0]] an cz dI fk) rfl rfl rfl (Rd.get (g:=vs) (xs:=[t[j]!.1,t[j]!.2]) (k:=1) (a:=t[j]!.2) rfl C9 rfl aK rfl) ?_
        refine WE.take 8 [] rfl an jE (aP [az b8 48 [v,vs hdM,.slice none 0 0]] an cz dI fk) rfl rfl rfl (bO (ps:=[(0,_),(1,_)]) rfl Nv JH rfl aZ fy (by apply NFo.mk;repeat(first|exact NF.nil|apply NF.cons))) ?_
        refine WE.one 9 rfl an rfl ?_
        refine aX (ps:=[(0,_)]) rfl S46 aZ rfl rfl fy an rfl rfl rfl ?_;intro b73
        refine⟨(aP [az b8 48 [v,vs hdM,.slice none 0 0]] an cz dI fk),?_⟩
        refine WE.one 10 rfl an rfl ?_
        refine bR (enc:=encR) rfl S46 rfl rfl bh bh [t[j]!] rfl (by rfl) rfl ie ie (by exact⟨by simp only[maxLen,List.length_append,List.length_nil,List.length_cons,List.length_drop,List.length_take,List.length_map];omega,by omega⟩) rfl rfl ?_;intro v74 hv74
        refine⟨(aP [az b8 48 [v,vs hdM,.slice none 0 0]] an cz dI fk),?_⟩
        refine WE.take 11 [] rfl an jE (aP [az b8 48 [v,vs hdM,.slice none 0 0]] an cz dI fk) rfl rfl rfl ((by exact ak rfl mW rfl rfl)) ?_
        refine WE.one 12 rfl an rfl ?_
        refine aV rfl Z46 rfl rfl (by assumption) bh (by(simp;done)) rfl ?_
        refine⟨(aP [] an cz dI fk),?_⟩
        refine WE.done an ?_
        refine aA<|nW.on bh ?_
        exact⟨rfl,v74,(by rw[CN hj];exact bN)⟩
       case after=>
        intro v
        rw[List.take_length]
        refine⟨_,bh,?_⟩
        refine WC.pK<|WC.heap (O':=dfC D0::bt 101 2 encR v t::bt 43 3 bl (.slice none 0 0) []::az b8 48 [v,vs hdM,.slice none 0 0]::az b2 48 oV::O) bN ?_
        refine aB<|af rfl<|aq rfl<|aj rfl rfl aZ an rfl rfl rfl ?_
        refine uQ (v:=.slice e1 e2 e3) (n:=3) bL.sl ct ?_;intro b77 c77
        refine aG<|pD.normal<|iy.mk rfl an ?_
        intro l2 D2
        refine Fun.heap (O':=recC l2 _ _ D2 .ready none _ _ _::az b8 48 [v,vs hdM,.slice none 0 0]::bt 43 3 bl (.slice none 0 0) (L.take 0)::az b77 37 [.slice e1 e2 e3]::az c77 3 [.int .i64 ((3:Nat):Int)]::dfC D2::dfC D0::bt 101 2 encR v t::az b2 48 oV::O) bN ?_
        refine Ag (g0:=Value.slice none 0 0) (I:=λj u=>az b8 48 [v,vs hdM,u]::bt 43 3 bl u (L.take j)::az b77 37 [.slice e1 e2 e3]::az c77 3 [.int .i64 ((3:Nat):Int)]::dfC D2::dfC D0::bt 101 2 encR v t::az b2 48 oV::O) (m:=L.length) (n:=3) (xs:=bz L) aK (by rw[hp2];omega) ct ao (λj g=>aK) (λj g=>aK) ?round ?after
        case round=>
         intro j u hj
         rw[FI hj]
         have hjl:(L.take j).length<=120:=by rw[List.length_take];omega
         refine Yld.round bh rfl rfl rfl ?_
         refine WR.region<|ar rfl<|aG<|mK.mk bh ?_
         refine WR.block ?_
         refine WR.o9 (O) ([(15,az b8 48 [v,vs hdM,u])]) 16 rfl mixed ?_
         refine WE.take 0 [] rfl an jE (aP [az b8 48 [v,vs hdM,u]] an cz dI fk) rfl rfl rfl ((by exact ak rfl oZ rfl rfl)) ?_
         refine WE.take 1 [(15,az b8 48 [v,vs hdM,u])] rfl an jE (aP [az b8 48 [v,vs hdM,u]] an cz dI fk) rfl rfl rfl (ax (b:=b8) (off:=2) (u:=u) rfl C38 rfl aK rfl) ?_
         refine WE.take 2 [] rfl an jE (aP [az b8 48 [v,vs hdM,u]] an cz dI fk) rfl rfl rfl (al rfl rfl) ?_
         refine WE.take 3 [] rfl an jE (aP [az b8 48 [v,vs hdM,u]] an cz dI fk) rfl rfl rfl (c9 (enc:=SL.one vs) (xs:=[L[j]!.1,L[j]!.2.1,L[j]!.2.2]) (k:=0) rfl S37 rfl rfl rfl aK (show 0<3 by decide)) ?_
         refine WE.take 4 [(15,az b8 48 [v,vs hdM,u])] rfl an jE (aP [az b8 48 [v,vs hdM,u]] an cz dI fk) rfl rfl rfl (Rd.get (g:=vs) (xs:=[L[j]!.1,L[j]!.2.1,L[j]!.2.2]) (k:=0) (a:=L[j]!.1) rfl C9 rfl aK rfl) ?_
         refine WE.take 5 [] rfl an jE (aP [az b8 48 [v,vs hdM,u]] an cz dI fk) rfl rfl rfl (al rfl rfl) ?_
         refine WE.take 6 [] rfl an jE (aP [az b8 48 [v,vs hdM,u]] an cz dI fk) rfl rfl rfl (c9 (enc:=SL.one vs) (xs:=[L[j]!.1,L[j]!.2.1,L[j]!.2.2]) (k:=1) rfl S37 rfl rfl rfl aK (show 1<3 by decide)) ?_
         refine WE.take 7 [(15,az b8 48 [v,vs hdM,u])] rfl an jE (aP [az b8 48 [v,vs hdM,u]] an cz dI fk) rfl rfl rfl (Rd.get (g:=vs) (xs:=[L[j]!.1,L[j]!.2.1,L[j]!.2.2]) (k:=1) (a:=L[j]!.2.1) rfl C9 rfl aK rfl) ?_
         refine WE.take 8 [] rfl an jE (aP [az b8 48 [v,vs hdM,u]] an cz dI fk) rfl rfl rfl (al rfl rfl) ?_
         refine WE.take 9 [] rfl an jE (aP [az b8 48 [v,vs hdM,u]] an cz dI fk) rfl rfl rfl (c9 (enc:=SL.one vs) (xs:=[L[j]!.1,L[j]!.2.1,L[j]!.2.2]) (k:=2) rfl S37 rfl rfl rfl aK (show 2<3 by decide)) ?_
         refine WE.take 10 [(15,az b8 48 [v,vs hdM,u])] rfl an jE (aP [az b8 48 [v,vs hdM,u]] an cz dI fk) rfl rfl rfl (Rd.get (g:=vs) (xs:=[L[j]!.1,L[j]!.2.1,L[j]!.2.2]) (k:=2) (a:=L[j]!.2.2) rfl C9 rfl aK rfl) ?_
         refine WE.take 11 [] rfl an jE (aP [az b8 48 [v,vs hdM,u]] an cz dI fk) rfl rfl rfl (bO (ps:=[(0,_),(1,_),(2,_)]) rfl Ps I43 rfl aZ fy (by apply NFo.mk;repeat(first|exact NF.nil|apply NF.cons))) ?_
         refine WE.one 12 rfl an rfl ?_
         refine aX (ps:=[(0,_)]) rfl S38 aZ rfl rfl fy an rfl rfl rfl ?_;intro b91
         refine⟨(aP [az b8 48 [v,vs hdM,u]] an cz dI fk),?_⟩
         refine WE.one 13 rfl an rfl ?_
         refine bR (enc:=bl) rfl S38 rfl rfl bh bh [L[j]!] rfl (by rfl) rfl ie ie (by exact⟨by simp only[maxLen,List.length_append,List.length_nil,List.length_cons,List.length_drop,List.length_take,List.length_map];omega,by omega⟩) rfl rfl ?_;intro v92 hv92
         refine⟨(aP [az b8 48 [v,vs hdM,u]] an cz dI fk),?_⟩
         refine WE.take 14 [] rfl an jE (aP [az b8 48 [v,vs hdM,u]] an cz dI fk) rfl rfl rfl ((by exact ak rfl oZ rfl rfl)) ?_
         refine WE.one 15 rfl an rfl ?_
         refine aV rfl Z38 rfl rfl (by assumption) bh (by(simp;done)) rfl ?_
         refine⟨(aP [] an cz dI fk),?_⟩
         refine WE.done an ?_
         refine aA<|nW.on bh ?_
         exact⟨rfl,v92,(by rw[vq hj];exact bN)⟩
        case after=>
         intro u
         rw[List.take_length]
         refine⟨_,bh,?_⟩
         refine aF<|aF<|WC.heap (λw h=>Sat.eE (xs:=t) (v:=v) (enc:=encR) bh h) ?_
         refine WC.oR (p:=SlE encR v t) List.mem_cons_self (λw h=>Ig h) ?_
         rintro⟨⟨f1,f2,f3⟩,rfl⟩
         refine WC.heap (λw h=>Sat.eE (xs:=L) (v:=u) (enc:=bl) bh h) ?_
         refine WC.oR (p:=SlE bl u L) List.mem_cons_self (λw h=>AF h) ?_
         rintro⟨⟨h1,h2,h3⟩,rfl⟩
         refine aB<|ab rfl (by exact bj rfl G48 rfl aK ba rfl) ?_
         refine aq rfl<|aj rfl rfl aZ an rfl rfl rfl ?_
         refine AD (t:=t) (L:=L) aK aK aK hok ?_
         refine ab rfl (by exact Rd.not rfl rfl) ?_
         refine aw<|WC.cond rfl (λhc6=>?_) (λhc6=>?_)
         ·
          cases hc6
         ·
          refine ay<|aa<|aD<|ab rfl (by exact bj rfl G48 rfl aK ba rfl) ?_
          refine aq rfl<|aM rfl G48 rfl rfl ba bh rfl rfl ba rfl ?_
          refine ar rfl<|aw<|WC.Cb (kV.mark bh (kV.mark bh (kV.nil))) (iD.mk (iD.mk (dX (b:=b2) Tryz.results72 rfl rfl aK G48 rfl ?_)))
          exact⟨_,_,hk (.slice f1 f2 f3) (.slice h1 h2 h3) bL.sl bL.sl,bN⟩
end
end Go.Proofs.YtebpkhlifcffnaaGreatDoor.Fs
namespace Go.Proofs.YtebpkhlifcffnaaGreatDoor.Fs
open Go Go.SL
section
variable{R:List RO}{O:List Own}{POST:Value->List RO->List Own->Prop}{n:Nat}{f:Nat->Bool}
set_option maxRecDepth 20000 in
theorem r6{xs:List Ext}{xv:Value}(hx:SlE cW xv xs∈R)(hn:n<=4096)(ht:bU n false f xs)(hl:xs.length<=1000000)(hk:POST (.tuple #[spV n (bP false f xs),.int .i64 0]) R O):Fun Tryz.prog 65 #[spV n f,xv] R O POST:=by
 refine bp<|Fun.sJ hx λhxv=>?_
 refine aC (l:=[_,_]) Tryz.func65 rfl Tryz.ntmps65 rfl (L0:=[(0,_),(1,_)]) rfl ?_
 refine aD<|aq rfl<|OpW.box rfl rfl ba rfl rfl ?_;intro b2
 refine aq rfl<|OpW.alloc rfl I75 rfl ba rfl rfl ?_;intro b4
 refine ar rfl<|a7<|ab rfl (by exact bj rfl G75 rfl aK ba rfl) ?_
 refine af rfl<|aq rfl<|aj rfl rfl aZ an rfl rfl rfl ?_
 refine sj (v:=false) hx hn ht hl ?_
 refine bH rfl<|bH rfl<|aq rfl<|aM rfl G75 rfl rfl ba bh rfl rfl ba rfl ?_
 refine ar rfl<|aw<|WC.ret (dX Tryz.results65 rfl rfl aK G75 rfl ?_)
 exact⟨_,_,hk,bN⟩
set_option maxRecDepth 20000 in
theorem my{xs:List Ext}{xv:Value}(hx:SlE cW xv xs∈R)(hn:n<=4096)(ht:bU n true f xs)(hl:xs.length<=1000000)(hk:POST (.tuple #[spV n (bP true f xs),.int .i64 0]) R O):Fun Tryz.prog 58 #[spV n f,xv] R O POST:=by
 refine bp<|Fun.sJ hx λhxv=>?_
 refine aC (l:=[_,_]) Tryz.func58 rfl Tryz.ntmps58 rfl (L0:=[(0,_),(1,_)]) rfl ?_
 refine aD<|aq rfl<|OpW.box rfl rfl ba rfl rfl ?_;intro b2
 refine aq rfl<|OpW.alloc rfl I75 rfl ba rfl rfl ?_;intro b4
 refine ar rfl<|a7<|ab rfl (by exact bj rfl G75 rfl aK ba rfl) ?_
 refine af rfl<|aq rfl<|aj rfl rfl aZ an rfl rfl rfl ?_
 refine sj (v:=true) hx hn ht hl ?_
 refine bH rfl<|bH rfl<|aq rfl<|aM rfl G75 rfl rfl ba bh rfl rfl ba rfl ?_
 refine ar rfl<|aw<|WC.ret (dX Tryz.results58 rfl rfl aK G75 rfl ?_)
 exact⟨_,_,hk,bN⟩
theorem Kf{n:Nat}{f:Nat->Bool}(ho: ∀i,n<=i->f i=false)(h8:0<n%8):spN f (n/8)/2^(n%8)=0:=by
 have e: ∀k,n%8<=k->f (8*(n/8)+k)=false:=λk hk=>ho _ ao
 unfold spN pk
 have b0:=dS (f (8*(n/8)));have b1:=dS (f (8*(n/8)+1));have b2:=dS (f (8*(n/8)+2));have b3:=dS (f (8*(n/8)+3))
 have b4:=dS (f (8*(n/8)+4));have b5:=dS (f (8*(n/8)+5));have b6:=dS (f (8*(n/8)+6));have b7:=dS (f (8*(n/8)+7))
 have z:b2n false=0:=rfl
 rcases(by omega:n%8=1∨n%8=2∨n%8=3∨n%8=4∨n%8=5∨n%8=6∨n%8=7) with h|h|h|h|h|h|h<;>rw[h]
 ·rw[e 1 ao,e 2 ao,e 3 ao,e 4 ao,e 5 ao,e 6 ao,e 7 ao,z];omega
 ·rw[e 2 ao,e 3 ao,e 4 ao,e 5 ao,e 6 ao,e 7 ao,z];omega
 ·rw[e 3 ao,e 4 ao,e 5 ao,e 6 ao,e 7 ao,z];omega
 ·rw[e 4 ao,e 5 ao,e 6 ao,e 7 ao,z];omega
 ·rw[e 5 ao,e 6 ao,e 7 ao,z];omega
 ·rw[e 6 ao,e 7 ao,z];omega
 ·rw[e 7 ao,z];omega
set_option maxRecDepth 20000 in
theorem yA(hn:n<=4096)(ho: ∀i,n<=i->f i=false)(hk:POST (.tuple #[spV n f,.int .i64 0]) R O):Fun Tryz.prog 55 #[.int .i64 (n:Int),vs (spB n f)] R O POST:=by
 refine bp ?_
 have hlen:=fU n f
 have hlen0:=fU n jQ
 refine aC (l:=[_,_]) Tryz.func55 rfl Tryz.ntmps55 rfl (L0:=[(0,_),(1,_)]) rfl ?_
 refine aD<|aq rfl<|OpW.alloc rfl I75 rfl ba rfl rfl ?_;intro b4
 refine ar rfl<|a7<|af rfl<|aq rfl<|aj rfl rfl aZ an rfl rfl rfl ?_
 refine u9 hn ?_
 refine af rfl<|bH rfl<|bH rfl<|aq rfl<|OpW.alloc rfl I75 rfl ba rfl rfl ?_;intro b6
 refine aq rfl<|aM rfl G75 rfl rfl ba bh rfl rfl ba rfl ?_
 refine ar rfl<|aw<|bd<|af rfl<|ab rfl (Rd.neq rfl rfl rfl)<|aw<|aE rfl (λhc1=>?_) (λhc1=>?_)
 ·
  exact absurd hc1 ct
 ·
  refine ay<|aa<|bd<|af rfl<|ab rfl (cg (ts:=#[]) (ty:=0) rfl rfl Tryz.underlying9) ?_
  refine ab rfl (by exact ak rfl w8 rfl rfl) ?_
  refine ab rfl (by exact ax rfl C9 rfl aK (by rfl)) ?_
  refine ab rfl (cg (ts:=#[]) (ty:=0) rfl rfl Tryz.underlying9) ?_
  refine ab rfl (Rd.neq rfl rfl rfl)<|aU 22 (u:=.bool (decide False)) rfl (by rw[hlen,hlen0];simp) ?_
  refine af rfl<|WL.case 23 rfl (λhg23=>?_) (λhg23=>?_)
  ·
   exact hg23.elim
  ·
   refine aT rfl (al rfl rfl)<|aT rfl (gL (a:=n) (b:=8) rfl rfl rfl rfl rfl ao) ?_
   refine aT rfl (Rd.gtr rfl rfl rfl)<|aT rfl (al rfl rfl)<|WL.case 27 rfl (λhg27=>?_) (λhg27=>?_)
   ·
    refine aT rfl (al rfl rfl)<|aT rfl (al rfl rfl)<|aT rfl (cg (ts:=#[]) (ty:=0) rfl rfl Tryz.underlying9) ?_
    refine aT rfl (Rd.sub rfl rfl rfl ao) ?_
    refine aT rfl (fb (k:=n/8) (b:=spY f (n/8)) rfl Tryz.underlying9 rfl rfl (by rw[hlen];omega) (by rw[←sR (n:=n) ao];exact get!_of_lt (by rw[hlen];omega))) ?_
    refine aT rfl (al rfl rfl)<|aT rfl (gL (a:=n) (b:=8) rfl rfl rfl rfl rfl ao) ?_
    refine aT rfl (cu (a:=spN f (n/8)) (n:=n%8) rfl rfl rfl (by rw[sO]) rfl (by show _<=8;omega)) ?_
    refine aT rfl (Rd.neq rfl rfl rfl)<|aU 36 (u:=.bool false) rfl (by rw[Kf ho ao];rfl) ?_
    refine aT rfl (aY rfl rfl rfl)<|ab rfl (aQ rfl rfl rfl)<|aw<|WC.cond rfl (λhc2=>?_) (λhc2=>?_)
    ·
     exact absurd hc2 ct
    ·
     refine ay<|aa<|aD<|af rfl<|ab rfl (by exact ak rfl w8 rfl rfl) ?_
     refine aq rfl<|aV rfl Z9 rfl rfl (by exact⟨rfl,rfl⟩) bh (by(simp;done)) rfl ?_
     refine a7<|ab rfl (by exact bj rfl G75 rfl aK ba rfl) ?_
     refine aq rfl<|aM rfl G75 rfl rfl ba bh rfl rfl ba rfl ?_
     refine ar rfl<|aw<|WC.ret (dX Tryz.results55 rfl rfl aK G75 rfl ?_)
     exact⟨_,_,hk,bN⟩
   ·
    refine aW rfl<|aW rfl<|aW rfl<|aW rfl<|aW rfl<|aW rfl<|aW rfl<|aW rfl<|aW rfl<|aT rfl (aQ rfl rfl rfl)<|ab rfl (aQ rfl rfl rfl)<|aw<|WC.no rfl<|ay<|aa<|aD<|af rfl<|ab rfl (by exact ak rfl w8 rfl rfl) ?_
    refine aq rfl<|aV rfl Z9 rfl rfl (by exact⟨rfl,rfl⟩) bh (by(simp;done)) rfl ?_
    refine a7<|ab rfl (by exact bj rfl G75 rfl aK ba rfl) ?_
    refine aq rfl<|aM rfl G75 rfl rfl ba bh rfl rfl ba rfl ?_
    refine ar rfl<|aw<|WC.ret (dX Tryz.results55 rfl rfl aK G75 rfl ?_)
    exact⟨_,_,hk,bN⟩
end
end Go.Proofs.YtebpkhlifcffnaaGreatDoor.Fs
namespace Go.Proofs.YtebpkhlifcffnaaGreatDoor.Fs
open Go Go.SL
section
variable{R:List RO}{O:List Own}{POST:Value->List RO->List Own->Prop}{n:Nat}{f:Nat->Bool}
abbrev Qh(a k:Nat):Value:=.agg #[.int .i64 (a:Int),.int .i64 (k:Int)]
set_option maxRecDepth 20000 in
set_option maxHeartbeats 1000000 in
theorem LK{γ:Type}{l:Nat}{c1:Own}{I:γ->List Own}{J:Nat->γ->Prop}{g0:γ}(hn:n<=4096)(hJ0:J 0 g0)(hskip: ∀a g,a<n->f a=true->J a g->J (a+1) g)
 (hY: ∀b a k g,J a g->1<=k->a+k<=n->(∀i,a<=i->i<a+k->f i=false)->(a+k=n∨f (a+k)=true)->
   Yld Tryz.prog l [Qh a k] R (az b 75 (dD n f)::c1::I g) (λt R' O'=>(t=true/\ ∃g',J (a+k+1) g'/\ ∀w,Sat R' O' w->Sat R (az b 75 (dD n f)::c1::I g') w)∨(t=false/\POST (.tuple #[]) R' O')))
 (hE: ∀a g,n<=a->J a g->POST (.tuple #[]) R (c1::I g)):Fun Tryz.prog 124 #[spV n f,.func (.yield l) #[] #[]] R (c1::I g0) POST:=by
 refine bp<|mU (l:=[_,_]) Tryz.func124 rfl Tryz.ntmps124 rfl (L0:=[(0,_),(1,_)]) rfl ?_
 refine WR.seq<|WR.region<|aq rfl<|OpW.box rfl rfl ba rfl rfl ?_;intro b2
 refine aG<|cx.normal<|WR.seq<|WR.region<|ar rfl<|aG<|cx.normal<|WR.block ?_
 refine WR.pick [4,1,2] eS ?_
 refine WR.ia 1 (λ(a:Nat) (g:γ)=>[(4,.int .i64 (a:Int))]) (λ(a:Nat) (g:γ)=>az b2 75 (dD n f)::c1::I g) (λ(a:Nat) (g:γ)=>a<=n+1/\J a g) (λ(a:Nat) (g:γ)=>n+1-a) (0) (g0) iw ?hinv1 cC (λ_ h=>h) ?_
 case hinv1=>
  exact⟨Nat.zero_le _,hJ0⟩
 intro a g
 rintro⟨i1,i2⟩
 refine WR.seq<|WR.seq<|WR.region<|af rfl<|ab rfl (by exact ak rfl wP rfl rfl) ?_
 refine ab rfl (by exact ax rfl C3 rfl aK (by rfl)) ?_
 refine ab rfl (Rd.lss rfl rfl rfl)<|aG<|cx.normal<|WR.ite rfl (λhc1=>?_) (λhc1=>?_)
 ·
  refine WR.skip<|cx.normal<|WR.block ?_
  refine WR.seq<|WR.region<|af rfl<|ar rfl<|aG<|cx.normal<|WR.seq<|WR.block ?_
  refine WR.pick [5,1,2,4] eS ?_
  refine WR.lx 1 (λ(k:Nat)=>[(5,.int .i64 ((a+k:Nat):Int))]) (λ(k:Nat)=>a+k<=n/\ ∀i,a<=i->i<a+k->f i=false) (λ(k:Nat)=>n-(a+k)) (0) iw ?hinv2 cC (λ_ h=>h) ?_
  case hinv2=>
   exact⟨by omega,λi h1 h2=>by omega⟩
  intro k
  rintro⟨k1,k2⟩
  refine WR.seq<|WR.seq<|WR.region<|af rfl<|ab rfl (by exact ak rfl wP rfl rfl) ?_
  refine ab rfl (by exact ax rfl C3 rfl aK (by rfl)) ?_
  refine ab rfl (Rd.lss rfl rfl rfl)<|af rfl<|WL.case 15 rfl (λhg15=>?_) (λhg15=>?_)
  ·
   refine aT rfl (by exact bj rfl G75 rfl aK ba rfl) ?_
   refine aT rfl (al rfl rfl)<|WL.c4 rfl rfl rfl rfl<|aj rfl rfl aZ an rfl rfl rfl ?_
   refine BO (i:=a+k) ao hn ?_
   refine aT rfl (by exact Rd.not rfl rfl) ?_
   refine ab rfl (aY rfl rfl rfl)<|aG<|cx.normal<|WR.cond rfl (λhc2=>?_) (λhc2=>?_)
   ·
    have hfk:f (a+k)=false:=by simpa using hc2
    refine WR.skip<|cx.normal<|WR.block ?_
    refine WR.region<|af rfl<|ab rfl (Rd.add rfl rfl rfl ao) ?_
    exact ar rfl<|aG<|aA<|bq.mk (k+1) ⟨by omega,λi h1 h2=>by
    rcases Nat.lt_or_ge i (a+k) with h|h
    ·exact k2 i h1 h
    ·obtain rfl:i=a+k:=by omega
     exact hfk⟩ ao cC (λ_ h=>h)
   ·
    have hfk:f (a+k)=true:=by simpa using hc2
    refine WR.exit<|cx.exit<|bq.exit<|aH.exit<|cx.normal<|WR.seq<|WR.seq<|jg<|WY.rd rfl rfl rfl (al rfl rfl) ?_
    refine WY.rd rfl rfl rfl (al rfl rfl)<|WY.rd rfl rfl rfl (Rd.gtr rfl rfl rfl)<|WY.rd rfl rfl rfl (al rfl rfl)<|WY.case 26 rfl (λhg26=>?_) (λhg26=>?_)
    ·
     refine WY.fq rfl rfl rfl rfl rfl rfl (al rfl rfl)<|WY.fq rfl rfl rfl rfl rfl rfl (al rfl rfl)<|WY.fq rfl rfl rfl rfl rfl rfl (al rfl rfl)<|WY.fq rfl rfl rfl rfl rfl rfl (al rfl rfl)<|WY.fq rfl rfl rfl rfl rfl rfl (Rd.sub rfl rfl rfl ao) ?_
     refine WY.say 31 (u:=.int .i64 (k:Int)) rfl (by congr 1;omega) ?_
     refine WY.fq rfl rfl rfl rfl rfl rfl (bO (ps:=[(0,_),(1,_)]) rfl Jl wk rfl aZ fy (by apply NFo.mk;repeat(first|exact NF.nil|apply NF.cons))) ?_
     refine qI rfl rfl rfl rfl rfl rfl aZ rfl rfl ?_
     refine(hY b2 a k g i2 ao k1 k2 (by exact .inr hfk)).mono ?_;intro b33 R' O' hK
     refine WY.fq rfl rfl rfl rfl rfl rfl ((by exact Rd.not rfl rfl)) ?_
     refine WY.rd rfl rfl rfl (aY rfl rfl rfl)<|WY.nil<|cx.normal<|WR.cond rfl (λhc3=>?_) (λhc3=>?_)
     ·
      have hP:POST (.tuple #[]) R' O':=by
       rcases hK with⟨rfl,_⟩|⟨_,hP⟩
       ·simp at hc3
       ·exact hP
      refine WR.ret (cx.fJ (aH.fJ (bC.fJ (aH.fJ (Ret.zero Tryz.results124 ?_)))))
      exact⟨_,_,hP,λ_ h=>h⟩
     ·
      obtain⟨g',hJ',hS⟩: ∃g',J (a+k+1) g'/\ ∀w,Sat R' O' w->Sat R (az b2 75 (dD n f)::c1::I g') w:=by
       rcases hK with⟨_,h⟩|⟨rfl,_⟩
       ·exact h
       ·simp at hc3
      refine WR.heap hS ?_
      refine WR.skip<|cx.normal<|WR.region<|af rfl<|ab rfl (Rd.add rfl rfl rfl ao) ?_
      refine ar rfl<|aG<|aA ?_
      first
       |exact bC.mk (a+k+1) g' ⟨by omega,hJ'⟩ ao cC bN
       |exact bC.mk (a+1) g ⟨by omega,hskip a g ao (by rw[←hfk];congr 1;omega) i2⟩ ao (by repeat(first|exact Sub.nil|refine Sub.cons rfl (by first|rfl|(congr 1;omega)|assumption) ?_)) bN
       |(exfalso;omega)
    ·
     refine WY.no rfl rfl rfl rfl rfl rfl<|WY.no rfl rfl rfl rfl rfl rfl<|WY.no rfl rfl rfl rfl rfl rfl<|WY.no rfl rfl rfl rfl rfl rfl<|WY.no rfl rfl rfl rfl rfl rfl<|WY.no rfl rfl rfl rfl rfl rfl<|WY.no rfl rfl rfl rfl rfl rfl<|WY.no rfl rfl rfl rfl rfl rfl<|WY.rd rfl rfl rfl (aQ rfl rfl rfl) ?_
     refine WY.nil<|cx.normal<|WR.no rfl<|WR.skip<|cx.normal<|WR.region<|af rfl<|ab rfl (Rd.add rfl rfl rfl ao) ?_
     refine ar rfl<|aG<|aA ?_
     first
      |exact bC.mk (a+k+1) g' ⟨by omega,hJ'⟩ ao (by repeat(first|exact Sub.nil|refine Sub.cons rfl (by first|rfl|(congr 1;omega)|assumption) ?_)) bN
      |exact bC.mk (a+1) g ⟨by omega,hskip a g ao (by rw[←hfk];congr 1;omega) i2⟩ ao (by repeat(first|exact Sub.nil|refine Sub.cons rfl (by first|rfl|(congr 1;omega)) ?_)) bN
      |(exfalso;omega)
  ·
   refine aW rfl<|aW rfl<|aW rfl<|aW rfl<|ab rfl (aQ rfl rfl rfl)<|aG<|cx.normal<|WR.no rfl<|WR.exit<|cx.exit<|bq.exit<|aH.exit<|cx.normal ?_
   refine WR.seq<|WR.seq<|jg<|WY.rd rfl rfl rfl (al rfl rfl)<|WY.rd rfl rfl rfl (al rfl rfl)<|WY.rd rfl rfl rfl (Rd.gtr rfl rfl rfl)<|WY.rd rfl rfl rfl (al rfl rfl)<|WY.case 26 rfl (λhg26=>?_) (λhg26=>?_)
   ·
    refine WY.fq rfl rfl rfl rfl rfl rfl (al rfl rfl)<|WY.fq rfl rfl rfl rfl rfl rfl (al rfl rfl)<|WY.fq rfl rfl rfl rfl rfl rfl (al rfl rfl)<|WY.fq rfl rfl rfl rfl rfl rfl (al rfl rfl)<|WY.fq rfl rfl rfl rfl rfl rfl (Rd.sub rfl rfl rfl ao) ?_
    refine WY.say 31 (u:=.int .i64 (k:Int)) rfl (by congr 1;omega) ?_
    refine WY.fq rfl rfl rfl rfl rfl rfl (bO (ps:=[(0,_),(1,_)]) rfl Jl wk rfl aZ fy (by apply NFo.mk;repeat(first|exact NF.nil|apply NF.cons))) ?_
    refine qI rfl rfl rfl rfl rfl rfl aZ rfl rfl ?_
    refine(hY b2 a k g i2 ao k1 k2 (by exact .inl ao)).mono ?_;intro b33 R' O' hK
    refine WY.fq rfl rfl rfl rfl rfl rfl ((by exact Rd.not rfl rfl)) ?_
    refine WY.rd rfl rfl rfl (aY rfl rfl rfl)<|WY.nil<|cx.normal<|WR.cond rfl (λhc3=>?_) (λhc3=>?_)
    ·
     have hP:POST (.tuple #[]) R' O':=by
      rcases hK with⟨rfl,_⟩|⟨_,hP⟩
      ·simp at hc3
      ·exact hP
     refine WR.ret (cx.fJ (aH.fJ (bC.fJ (aH.fJ (Ret.zero Tryz.results124 ?_)))))
     exact⟨_,_,hP,λ_ h=>h⟩
    ·
     obtain⟨g',hJ',hS⟩: ∃g',J (a+k+1) g'/\ ∀w,Sat R' O' w->Sat R (az b2 75 (dD n f)::c1::I g') w:=by
      rcases hK with⟨_,h⟩|⟨rfl,_⟩
      ·exact h
      ·simp at hc3
     refine WR.heap hS ?_
     refine WR.skip<|cx.normal<|WR.region<|af rfl<|ab rfl (Rd.add rfl rfl rfl ao) ?_
     refine ar rfl<|aG<|aA ?_
     first
      |exact bC.mk (a+k+1) g' ⟨by omega,hJ'⟩ ao cC bN
      |exact bC.mk (a+1) g ⟨by omega,hskip a g ao (by rw[←hfk];congr 1;omega) i2⟩ ao (by repeat(first|exact Sub.nil|refine Sub.cons rfl (by first|rfl|(congr 1;omega)|assumption) ?_)) bN
      |(exfalso;omega)
   ·
    refine WY.no rfl rfl rfl rfl rfl rfl<|WY.no rfl rfl rfl rfl rfl rfl<|WY.no rfl rfl rfl rfl rfl rfl<|WY.no rfl rfl rfl rfl rfl rfl<|WY.no rfl rfl rfl rfl rfl rfl<|WY.no rfl rfl rfl rfl rfl rfl<|WY.no rfl rfl rfl rfl rfl rfl<|WY.no rfl rfl rfl rfl rfl rfl<|WY.rd rfl rfl rfl (aQ rfl rfl rfl) ?_
    refine WY.nil<|cx.normal<|WR.no rfl<|WR.skip<|cx.normal<|WR.region<|af rfl<|ab rfl (Rd.add rfl rfl rfl ao) ?_
    refine ar rfl<|aG<|aA ?_
    first
     |exact bC.mk (a+k+1) g' ⟨by omega,hJ'⟩ ao (by repeat(first|exact Sub.nil|refine Sub.cons rfl (by first|rfl|(congr 1;omega)|assumption) ?_)) bN
     |exact bC.mk (a+1) g ⟨by omega,hskip a g ao (by rw[←hfk];congr 1;omega) i2⟩ ao (by repeat(first|exact Sub.nil|refine Sub.cons rfl (by first|rfl|(congr 1;omega)|assumption) ?_)) bN
     |(exfalso;omega)
 ·
  refine WR.exit<|cx.exit<|bC.exit<|aH.exit<|Ret.normal (Ret.zero Tryz.results124 ?_)
  exact⟨_,_,hE a g ao i2,bN⟩
end
end Go.Proofs.YtebpkhlifcffnaaGreatDoor.Fs
namespace Go.Proofs.YtebpkhlifcffnaaGreatDoor.Fs
open Go Go.SL
section
variable{R:List RO}{O:List Own}{POST:Value->List RO->List Own->Prop}{n:Nat}{f:Nat->Bool}
theorem JN{xs:List Ext}{a m:Nat}(h:bU n true f xs)(hx: ∀x∈xs,x.1+x.2<=a)(h1:1<=m)(h2:a+m<=n)(h3: ∀i,a<=i->i<a+m->f i=false):bU n true f (xs++[(a,m)]):=by
 refine bU.app.2 ⟨h,⟨h1,h2,λi hi hj=>?_⟩,trivial⟩
 have hn:inX xs i=false:=ou.2 λ⟨x,hm,k1,k2⟩=>by have:=hx x hm;have h4:a<=i:=hi;omega
 rw[iE,hn,if_neg (by simp)]
 exact h3 i hi hj
structure TkJ(n:Nat)(f:Nat->Bool)(k a:Nat)(g:Value×List Ext):Prop where
 one:bL g.1
 ok:bU n true f g.2
 lt: ∀x∈g.2,x.1+x.2<=a
 cnt:fD f (min a n)=cY g.2
 less:cY g.2<k
theorem TkJ.skip{k a:Nat}{g:Value×List Ext}(h:TkJ n f k a g)(ha:a<n)(hf:f a=true):TkJ n f k (a+1) g:=
 ⟨h.one,h.ok,λx hx=>by have:=h.lt x hx;omega,by
   have:=h.cnt
   rw[Nat.min_eq_left ao] at this⊢
   rw[fD,hf,if_pos rfl,Nat.add_zero];exact this,h.less⟩
theorem TkJ.step{k a m:Nat}{g:Value×List Ext}{v:Value}(h:TkJ n f k a g)(hv:bL v)(h1:1<=m)(h2:a+m<=n)(h3: ∀i,a<=i->i<a+m->f i=false)(h4:a+m=n∨f (a+m)=true)(hl:cY (g.2++[(a,m)])<k):TkJ n f k (a+m+1) (v,g.2++[(a,m)]):=by
 refine⟨hv,JN h.ok h.lt h1 h2 h3,λx hx=>?_,?_,hl⟩
 ·rcases List.mem_append.1 hx with hx|hx
  ·have:=h.lt x hx;omega
  ·rw[List.mem_singleton] at hx;subst hx;show a+m<=_;omega
 ·have hc:=h.cnt
  rw[Nat.min_eq_left ao] at hc
  have hr:=Bb (f:=f) (a:=a) m h3
  have hs:cY (g.2++[(a,m)])=cY g.2+m:=by rw[nq];rfl
  rw[hs]
  rcases Nat.lt_or_ge (a+m) n with hlt|hge
  ·have hf:f (a+m)=true:=by rcases h4 with h4|h4;omega;exact h4
   rw[Nat.min_eq_left ao,fD,hf,if_pos rfl];omega
  ·rw[Nat.min_eq_right ao,show n=a+m by omega];omega
set_option maxRecDepth 20000 in
set_option maxHeartbeats 4000000 in
theorem jr{k most:Nat}(hn:n<=4096)(hk1:k<=fD f n)(hk2:k<=most)(hm:most<=1000000)(hk: ∀v xs,bL v->bU n true f xs->cY xs=k->POST (.tuple #[v,spV n (bP true f xs),.int .i64 0]) (SlE cW v xs::R) O):
 Fun Tryz.prog 63 #[spV n f,.int .i64 (k:Int),.int .i64 (most:Int)] R O POST:=by
 refine bp ?_
 have hkn:k<=n:=Nat.le_trans hk1 (Ec f n)
 refine aC (l:=[_,_,_]) Tryz.func63 rfl Tryz.ntmps63 rfl (L0:=[(0,_),(1,_),(2,_)]) rfl ?_
 refine aD<|aq rfl<|OpW.box rfl rfl ba rfl rfl ?_;intro b3
 refine ar rfl<|aq rfl<|OpW.alloc rfl I75 rfl ba rfl rfl ?_;intro b7
 refine ar rfl<|aw<|aF<|WC.pick [1,2,3,7] eS ?_
 refine WC.val 19 (.bool false) ?_ ?_
 ·
  refine aB<|af rfl<|ab rfl (Rd.lss rfl rfl rfl)<|af rfl<|WL.case 16 rfl (λhg16=>?_) (λhg16=>?_)
  ·
   refine aW rfl<|aW rfl<|ab rfl (aY rfl rfl rfl)<|aG ?_
   exact⟨by repeat(first|exact Sub.nil|refine Sub.cons rfl (by first|rfl|((exfalso;omega))) ?_),by exact(λ_ h=>h.thin (cB.mem cz))⟩
  ·
   refine aT rfl (al rfl rfl)<|aT rfl (Rd.lss rfl rfl rfl)<|ab rfl (aQ rfl rfl rfl)<|aG ?_
   exact⟨by repeat(first|exact Sub.nil|refine Sub.cons rfl (by rfl) ?_),by exact(λ_ h=>h.thin (cB.mem cz))⟩
 ·
  refine WC.cond rfl (λhc1=>?_) (λhc1=>?_)
  ·
   cases hc1
  ·
   refine ay<|aa<|aD<|aq rfl<|OpW.alloc rfl SB rfl ba rfl rfl ?_;intro b9
   refine a7<|af rfl ?_
   refine aq rfl<|OpW.alloc rfl I3 rfl ba rfl rfl ?_;intro b10
   refine aq rfl<|aV rfl Z3 rfl rfl (by exact⟨rfl,rfl⟩) bh (by(simp;done)) rfl ?_
   refine aw<|WC.yf rfl<|WC.heap (λw h=>h.dH (α:=Ext) (e:=157) (size:=2) (enc:=cW)) ?_
   refine aB<|ab rfl (by exact ax rfl C3 rfl aK (by rfl)) ?_
   refine ab rfl (Rd.gtr rfl rfl rfl)<|aG<|pz.mk rfl (λhc2=>?_) (λhc2=>?_)
   ·
    refine aB<|ab rfl (by exact bj rfl G75 rfl aK ba rfl) ?_
    refine ab rfl (Rd.func rfl aZ aZ ⟨_,rfl⟩) ?_
    refine aG<|qi.normal ?_
    refine nc.mk rfl an ?_
    intro l0 D0
    refine Fun.heap (R':=R) (O':=recC l0 _ _ D0 .ready none _ _ _::az b9 124 [.slice none 0 0]::bt 157 2 cW (.slice none 0 0) []::az b10 3 [.int .i64 ((k-cY []:Nat):Int)]::az b3 75 (dD n f)::az b7 75 [.int .i64 0,vs []]::dfC D0::O) bN ?_
    refine LK (γ:=Value×List Ext) (I:=λg=>az b9 124 [g.1]::bt 157 2 cW g.1 g.2::az b10 3 [.int .i64 ((k-cY g.2:Nat):Int)]::az b3 75 (dD n f)::az b7 75 [.int .i64 0,vs []]::dfC D0::O) (J:=TkJ n f k) (g0:=(.slice none 0 0,[])) hn ⟨bL.sl,trivial,λx hx=>by(cases hx),(by rw[Nat.min_eq_left (Nat.zero_le _)];rfl),(by show 0<k;omega)⟩ (λa g ha hf h=>h.skip ha hf) ?round ?after
    case round=>
     rintro b a kk ⟨v,xs⟩ hJ h1 h2 h3 h4
     have hone:=hJ.one
     have hless:=hJ.less
     simp only at hone hless
     obtain⟨m,hm⟩: ∃m,m=min kk (k-cY xs):=⟨_,rfl⟩
     have hsum:cY (xs++[(a,m)])=cY xs+m:=by rw[nq];rfl
     have hlen:=hJ.ok.len
     simp only at hlen
     have htk:bU n true f (xs++[(a,m)]):=JN hJ.ok hJ.lt ao ao (λi hi hj=>h3 i hi ao)
     dsimp only
     refine Dx (id:=0) bh rfl rfl rfl ?_
     refine WR.region<|aq rfl<|OpW.alloc rfl wk rfl ba rfl rfl ?_;intro b11
     refine aq rfl<|aM rfl sH rfl rfl ba bh rfl rfl ba rfl ?_
     refine aG<|tb.mk bh ?_
     refine WR.block ?_
     refine WR.seq<|WR.region<|ab rfl (by exact ak rfl mG rfl rfl) ?_
     refine ab rfl (by exact ax rfl C3 rfl aK (by rfl)) ?_
     refine ab rfl (by exact ax rfl C3 rfl aK (by rfl)) ?_
     refine ab rfl (jn rfl rfl rfl)<|aU 30 (u:=.int .i64 (m:Int)) rfl (by rw[hm];split<;>(congr 1;omega)) ?_
     refine ab rfl (by exact ak rfl mG rfl rfl) ?_
     refine aq rfl<|aV rfl Z3 rfl rfl (by exact⟨rfl,rfl⟩) bh (by(simp;done)) rfl ?_
     refine aG<|cx.normal<|WR.seq<|WR.o9 (az b11 157 [.int .i64 (a:Int),.int .i64 (m:Int)]::O) ([(8,az b9 124 [v]),(9,az b10 3 [.int .i64 ((k-cY xs:Nat):Int)])]) 10 rfl mixed ?_
     refine WE.take 0 [(8,az b9 124 [v]),(9,az b10 3 [.int .i64 ((k-cY xs:Nat):Int)])] rfl an jE (aP [az b9 124 [v],az b10 3 [.int .i64 ((k-cY xs:Nat):Int)]] an cz dI fk) rfl rfl rfl ((by exact ax rfl kW rfl aK (by rfl))) ?_
     refine WE.take 1 [(8,az b9 124 [v]),(9,az b10 3 [.int .i64 ((k-cY xs:Nat):Int)])] rfl an jE (aP [az b9 124 [v],az b10 3 [.int .i64 ((k-cY xs:Nat):Int)]] an cz dI fk) rfl rfl rfl ((by exact bj rfl sH rfl aK ba rfl)) ?_
     refine WE.take 4 [(9,az b10 3 [.int .i64 ((k-cY xs:Nat):Int)])] rfl an jE (aP [az b9 124 [v],az b10 3 [.int .i64 ((k-cY xs:Nat):Int)]] an cz dI fk) rfl rfl rfl ((by exact ax rfl C3 rfl aK (by rfl))) ?_
     refine WE.take 5 [] rfl an jE (aP [az b9 124 [v],az b10 3 [.int .i64 ((k-cY xs:Nat):Int)]] an cz dI fk) rfl rfl rfl ((by exact ak rfl mG rfl rfl)) ?_
     refine WE.take 6 [(9,az b10 3 [.int .i64 ((k-cY xs:Nat):Int)])] rfl an jE (aP [az b9 124 [v],az b10 3 [.int .i64 ((k-cY xs:Nat):Int)]] an cz dI fk) rfl rfl rfl ((by exact ax rfl C3 rfl aK (by rfl))) ?_
     refine WE.take 7 [] rfl an jE (aP [az b9 124 [v],az b10 3 [.int .i64 ((k-cY xs:Nat):Int)]] an cz dI fk) rfl rfl rfl (Rd.sub rfl rfl rfl ao) ?_
     refine WE.say 39 (u:=.int .i64 ((k-cY (xs++[(a,m)]):Nat):Int)) rfl (by congr 1;omega) ?_
     refine WE.one 2 rfl an rfl ?_
     refine aX (ps:=[(0,_)]) rfl tI aZ rfl rfl fy an rfl rfl rfl ?_;intro b34
     refine⟨(aP [az b9 124 [v],az b10 3 [.int .i64 ((k-cY xs:Nat):Int)]] an cz dI fk),?_⟩
     refine WE.one 3 rfl an rfl ?_
     refine bR (enc:=cW) rfl tI rfl rfl bh bh [(a,m)] rfl (by rfl) rfl ie ie (by exact⟨by simp only[maxLen,List.length_append,List.length_nil,List.length_cons,List.length_drop,List.length_take,List.length_map];omega,by omega⟩) rfl rfl ?_;intro v35 hv35
     refine⟨(aP [az b9 124 [v],az b10 3 [.int .i64 ((k-cY xs:Nat):Int)]] an cz dI fk),?_⟩
     refine WE.one 8 rfl an rfl ?_
     refine aV rfl HK rfl rfl (by assumption) bh (by(simp;done)) rfl ?_
     refine⟨(aP [az b10 3 [.int .i64 ((k-cY xs:Nat):Int)]] an cz dI fk),?_⟩
     refine WE.one 9 rfl an rfl ?_
     refine aV rfl Z3 rfl rfl (by exact⟨rfl,rfl⟩) bh (by(simp;done)) rfl ?_
     refine⟨(aP [] an cz dI fk),?_⟩
     refine WE.done an ?_
     refine cx.normal<|WR.seq<|WR.region<|ab rfl (by exact ax rfl C3 rfl aK (by rfl)) ?_
     refine ab rfl (Rd.eql rfl rfl rfl)<|aG<|cx.normal<|WR.ite rfl (λhc3=>?_) (λhc3=>?_)
     ·
      refine WR.exit<|BA rfl<|lD.off bh ?_
      refine .inr ⟨rfl,?_⟩
      obtain⟨XS,hXS⟩: ∃XS:List Ext,XS=xs++[(a,m)]:=⟨_,rfl⟩
      rw[←hXS] at htk⊢
      have hT:=htk
      have hSum:cY XS=k:=by rw[hXS];omega
      have hV:=hv35
      refine⟨_,.inr bh,?_⟩
      refine bd<|ab rfl (by exact ax rfl C3 rfl aK (by rfl)) ?_
      refine ab rfl (Rd.gtr rfl rfl rfl)<|af rfl<|WL.case 44 rfl (λhg44=>?_) (λhg44=>?_)
      ·
       omega
      ·
       refine aT rfl (by exact ax rfl kW rfl aK (by rfl)) ?_
       refine aT rfl (by exact fB rfl rfl Tryz.underlying124 aK) ?_
       refine aT rfl (al rfl rfl)<|aT rfl (Rd.gtr rfl rfl rfl)<|ab rfl (aQ rfl rfl rfl)<|aw<|aE rfl (λhc4=>?_) (λhc4=>?_)
       ·
        (have:=hT.len;omega)
       ·
        refine ay<|aa<|aF<|WC.heap (λw h=>Sat.eE (e:=157) (size:=2) (enc:=cW) (xs:=XS) bh h) ?_
        refine aB<|ab rfl (by exact bj rfl G75 rfl aK ba rfl) ?_
        refine ab rfl (by exact ax rfl kW rfl aK (by rfl)) ?_
        refine aq rfl<|aj rfl rfl aZ an rfl rfl rfl ?_
        refine my aK hn hT (by have:=hT.len;omega) ?_
        refine af rfl<|bH rfl<|bH rfl<|aq rfl<|OpW.alloc rfl I75 rfl ba rfl rfl ?_;intro b12
        refine aq rfl<|aM rfl G75 rfl rfl ba bh rfl rfl ba rfl ?_
        refine ar rfl<|aw<|aF<|WC.drawn (az b9 124 [v35]::az b12 75 (dD n (bP true f XS))::O) 6 rfl mixed ?_
        refine ae 0 rfl an aN rfl rfl rfl ((by exact ax rfl kW rfl aK (by rfl))) ?_
        refine ae 1 rfl an aN rfl rfl rfl ((by exact bj rfl G75 rfl aK ba rfl)) ?_
        refine ae 2 rfl an aN rfl rfl rfl (al rfl rfl) ?_
        refine ae 3 rfl an aN rfl rfl rfl (Rd.assign rfl rfl) ?_
        refine aS 4 rfl an rfl ?_
        refine aM rfl G75 rfl rfl ba bh rfl rfl ba rfl ?_
        refine⟨aN,?_⟩
        refine ae 5 rfl an aN rfl rfl rfl (Rd.assign rfl rfl) ?_
        refine WD.done an ?_
        refine aa<|WC.Cb (kV.mark bh (kV.nil)) (iD.mk (kU Tryz.results63 rfl rfl rfl aK G75 rfl ?_))
        exact⟨_,_,hk _ XS hV hT hSum,bN⟩
     ·
      obtain rfl:m=kk:=by omega
      refine WR.skip<|aA<|lD.on bh ?_
      exact .inl ⟨rfl,(v35,xs++[(a,m)]),hJ.step hv35 h1 h2 h3 h4 (by show cY (xs++[(a,m)])<k;omega),bN⟩
    case after=>
     intro a g ha hJ;exfalso;have h1:=hJ.cnt;have h2:=hJ.less;rw[Nat.min_eq_right ha] at h1;omega
   ·
    obtain rfl:k=0:=by omega
    obtain⟨XS,hXS⟩: ∃XS:List Ext,XS=[]:=⟨_,rfl⟩
    rw[←hXS]
    have hT:bU n true f XS:=by rw[hXS];trivial
    have hSum:cY XS=0:=by rw[hXS];rfl
    have hV:bL (.slice none 0 0):=bL.sl
    refine bd<|ab rfl (by exact ax rfl C3 rfl aK (by rfl)) ?_
    refine ab rfl (Rd.gtr rfl rfl rfl)<|af rfl<|WL.case 44 rfl (λhg44=>?_) (λhg44=>?_)
    ·
     omega
    ·
     refine aT rfl (by exact ax rfl kW rfl aK (by rfl)) ?_
     refine aT rfl (by exact fB rfl rfl Tryz.underlying124 aK) ?_
     refine aT rfl (al rfl rfl)<|aT rfl (Rd.gtr rfl rfl rfl)<|ab rfl (aQ rfl rfl rfl)<|aw<|aE rfl (λhc4=>?_) (λhc4=>?_)
     ·
      (have:=hT.len;omega)
     ·
      refine ay<|aa<|aF<|WC.heap (λw h=>Sat.eE (e:=157) (size:=2) (enc:=cW) (xs:=XS) bh h) ?_
      refine aB<|ab rfl (by exact bj rfl G75 rfl aK ba rfl) ?_
      refine ab rfl (by exact ax rfl kW rfl aK (by rfl)) ?_
      refine aq rfl<|aj rfl rfl aZ an rfl rfl rfl ?_
      refine my aK hn hT (by have:=hT.len;omega) ?_
      refine af rfl<|bH rfl<|bH rfl<|aq rfl<|OpW.alloc rfl I75 rfl ba rfl rfl ?_;intro b12
      refine aq rfl<|aM rfl G75 rfl rfl ba bh rfl rfl ba rfl ?_
      refine ar rfl<|aw<|aF<|WC.drawn (az b9 124 [.slice none 0 0]::az b12 75 (dD n (bP true f XS))::O) 6 rfl mixed ?_
      refine ae 0 rfl an aN rfl rfl rfl ((by exact ax rfl kW rfl aK (by rfl))) ?_
      refine ae 1 rfl an aN rfl rfl rfl ((by exact bj rfl G75 rfl aK ba rfl)) ?_
      refine ae 2 rfl an aN rfl rfl rfl (al rfl rfl) ?_
      refine ae 3 rfl an aN rfl rfl rfl (Rd.assign rfl rfl) ?_
      refine aS 4 rfl an rfl ?_
      refine aM rfl G75 rfl rfl ba bh rfl rfl ba rfl ?_
      refine⟨aN,?_⟩
      refine ae 5 rfl an aN rfl rfl rfl (Rd.assign rfl rfl) ?_
      refine WD.done an ?_
      refine aa<|WC.ret (kU Tryz.results63 rfl rfl rfl aK G75 rfl ?_)
      exact⟨_,_,hk _ XS hV hT hSum,bN⟩
end
end Go.Proofs.YtebpkhlifcffnaaGreatDoor.Fs
namespace Go.Proofs
open Go.Shelf Go.RowKit Go.Lib
theorem badRuneYtebpkhlifcffnaaGreatDoor(w:World):PredAt Tryz.prog 172 #[] encR (λr=>decide (r<33)||decide (126<r)) w:=λW r _=>by
 unfold FnGives
 by_cases h1:r<33<;>by_cases h2:126<r
 all_goals
  have z1:(r:Int)<33↔r<33:=by omega
  have z2:(126:Int)<(r:Int)↔126<r:=by omega
  go_enter Tryz.func172,Tryz.ntmps172
  go_wp2
  all_goals first|(exfalso;omega)|(go_ret;exact⟨by simp[h1,h2],0,rfl⟩)
end Go.Proofs
namespace Go.Proofs.YtebpkhlifcffnaaGreatDoor.Fs
open Go Go.SL
theorem xh{p:Nat->Bool}{s:List UInt8}(h: ∀c∈s,c.toNat<128/\p c.toNat=false): ∀(f pos:Nat),Go.Lib.idxFuncFrom p true ⟨s.toArray⟩ f pos= -1
 |0,_=>rfl
 |f+1,pos=>by
  unfold Go.Lib.idxFuncFrom
  split
  ·rename_i hp
   have hp':pos<s.length:=hp
   have hc:=h s[pos] (List.getElem_mem hp')
   have hg:(⟨s.toArray⟩:ByteArray).get! (pos+0)=s[pos]:=by
    show s.toArray[pos+0]! =s[pos]
    rw[Nat.add_zero];simp[hp']
   have hd:Utf8.decode ⟨s.toArray⟩ pos=(s[pos].toNat,1):=by
    unfold Utf8.decode
    simp only[hg]
    rw[if_pos hc.1]
   rw[hd]
   simp only
   rw[hc.2,if_neg (by simp)]
   exact xh h f (pos+1)
  ·rfl
section
variable{R:List RO}{O:List Own}{POST:Value->List RO->List Own->Prop}
set_option maxRecDepth 20000 in
theorem rE{s:Tx}(hg:oU s)(hk:POST (.bool true) R O):Fun Tryz.prog 113 #[vs s] R O POST:=by
 obtain⟨g1,g2,g3⟩:=hg
 refine aC (l:=[_]) Tryz.func113 rfl Tryz.ntmps113 rfl (L0:=[(0,_)]) rfl ?_
 refine aD<|ar rfl<|a7<|af rfl<|ab rfl (cg (ts:=#[]) (ty:=0) rfl rfl Tryz.underlying9) ?_
 refine ab rfl (Rd.gtr rfl rfl rfl)<|af rfl<|WL.case 6 rfl (λhg6=>?_) (λhg6=>?_)
 ·
  refine aT rfl (al rfl rfl)<|aT rfl (cg (ts:=#[]) (ty:=0) rfl rfl Tryz.underlying9) ?_
  refine aT rfl (Rd.leq rfl rfl rfl)<|ab rfl (aY rfl rfl rfl)<|af rfl<|WL.case 11 rfl (λhg11=>?_) (λhg11=>?_)
  ·
   refine aT rfl (al rfl rfl)<|WL.c4 rfl rfl rfl rfl<|aj rfl rfl aZ an rfl rfl rfl ?_
   refine Fun.below (v:=.int .i64 (-1)) (λw=>by
    have:=Tryz.strings_IndexFunc 172 #[] (Go.Proofs.enters_of Tryz.func172 an rfl) _ ⟨s.toArray⟩ w (Go.Proofs.badRuneYtebpkhlifcffnaaGreatDoor w)
    rw[show Go.Lib.idxFunc _ true ⟨s.toArray⟩= -1 from xh (λc hc=>⟨by have:=(g3 c hc).2;omega,by have:=g3 c hc;simp;omega⟩) _ _] at this
    exact this) ?_
   refine aT rfl (Rd.lss rfl rfl rfl)<|ab rfl (aY rfl rfl rfl)<|ar rfl<|aw<|WC.ret (Ret.one Tryz.results113 rfl ?_)
   exact hk
  ·
   omega
 ·
  omega
set_option maxRecDepth 20000 in
theorem Bj{n:Nat}(hn:n<65536)(hk:POST (vs (Bq n)) R O):Fun Tryz.prog 48 #[.int .i64 (n:Int)] R O POST:=by
 refine bp<|aC (l:=[_]) Tryz.func48 rfl Tryz.ntmps48 rfl (L0:=[(0,_)]) rfl ?_
 refine aD<|ar rfl<|a7<|af rfl<|ab rfl (cu (a:=n) (n:=8) rfl rfl rfl ao rfl ct) ?_
 refine ab rfl (cX (kd':=.u8) rfl rfl Tryz.underlying5 (hS:=Tryz.underlying3)) ?_
 refine aU 5 (u:=vy (byteOf (n/256))) rfl (by rw[lN]) ?_
 refine af rfl<|ab rfl (cX (kd':=.u8) rfl rfl Tryz.underlying5 (hS:=Tryz.underlying3)) ?_
 refine aU 7 (u:=vy (byteOf n)) rfl (by rw[lN]) ?_
 refine aq rfl<|aX (ps:=[(0,_),(1,_)]) rfl S41 aZ rfl rfl fy an rfl rfl rfl ?_;intro b8
 refine ab rfl (bY (bs:=Bq n) rfl Tryz.underlying41 Tryz.underlying9 Tryz.underlying5 rfl aK rfl rfl ao) ?_
 refine ar rfl<|aw<|WC.ret (Ret.one Tryz.results48 rfl ?_)
 exact⟨_,_,hk,bN⟩
set_option maxRecDepth 20000 in
theorem kX{s:Tx}(hs:s.length<=512)(hk:POST (vs (bF s)) R O):Fun Tryz.prog 47 #[vs s] R O POST:=by
 refine aC (l:=[_]) Tryz.func47 rfl Tryz.ntmps47 rfl (L0:=[(0,_)]) rfl ?_
 refine aD<|ar rfl<|a7<|af rfl<|af rfl<|ab rfl (cg (ts:=#[]) (ty:=0) rfl rfl Tryz.underlying9) ?_
 refine ab rfl (Rd.sub rfl rfl rfl ao) ?_
 refine aq rfl<|aj rfl rfl aZ an rfl rfl rfl ?_
 refine Fun.below (v:=vs (Lib.repeatL [0] (512-s.length))) (λw=>by
  have:=Tryz.strings_Repeat ⟨#[0]⟩ (512-s.length) w ao (by show 1*_<=_;omega)
  rw[show((512-s.length:Nat):Int)=512-(s.length:Int) from by omega] at this
  exact this) ?_
 rw[iB]
 refine ab rfl (cA rfl rfl rfl (by rw[List.length_replicate];omega)) ?_
 refine ar rfl<|aw<|WC.ret (Ret.one Tryz.results47 rfl ?_)
 exact hk
set_option maxRecDepth 20000 in
theorem wx{n files:Nat}(hn:n<65536)(hf:files<65536)(hk:POST (vs (gD n files)) R O):Fun Tryz.prog 21 #[.int .i64 (n:Int),.int .i64 (files:Int)] R O POST:=by
 refine aC (l:=[_,_]) Tryz.func21 rfl Tryz.ntmps21 rfl (L0:=[(0,_),(1,_)]) rfl ?_
 refine aD<|ar rfl<|a7<|af rfl ?_
 refine aq rfl<|aj rfl rfl aZ an rfl rfl rfl ?_
 refine Bj hn ?_
 refine ab rfl (cA rfl rfl rfl (by show 2+2<=_;omega)) ?_
 refine af rfl<|aq rfl<|aj rfl rfl aZ an rfl rfl rfl ?_
 refine Bj hf ?_
 refine ab rfl (cA rfl rfl rfl (by show 4+2<=_;omega)) ?_
 refine aq rfl<|aj rfl rfl aZ an rfl rfl rfl ?_
 refine kX (s:=[83,70]++Bq n++Bq files) (by show 6<=_;omega) ?_
 refine ar rfl<|aw<|WC.ret (Ret.one Tryz.results21 rfl ?_)
 exact hk
set_option maxRecDepth 20000 in
theorem k8{files:Nat}(hf:files<=5000)(hk:POST (.int .i64 ((7+files:Nat):Int)) R O):Fun Tryz.prog 20 #[.int .i64 (files:Int)] R O POST:=by
 refine aC (l:=[_]) Tryz.func20 rfl Tryz.ntmps20 rfl (L0:=[(0,_)]) rfl ?_
 refine aD<|ar rfl<|a7<|af rfl<|ab rfl (Rd.add rfl rfl rfl ao) ?_
 refine ab rfl (Rd.add rfl rfl rfl ao) ?_
 refine ar rfl<|aw<|WC.ret (Ret.one Tryz.results20 rfl ?_)
 rw[show(2:Int)+(files:Int)+5=((7+files:Nat):Int) from by omega]
 exact hk
set_option maxRecDepth 20000 in
theorem kN{n:Nat}(hn:n<=10000000)(hk:POST (.int .i64 (bc n:Nat)) R O):Fun Tryz.prog 64 #[.int .i64 (n:Int)] R O POST:=by
 refine aC (l:=[_]) Tryz.func64 rfl Tryz.ntmps64 rfl (L0:=[(0,_)]) rfl ?_
 refine aD<|ar rfl<|a7<|af rfl<|ab rfl (Rd.add rfl rfl rfl ao) ?_
 refine ab rfl (Rd.sub rfl rfl rfl ao) ?_
 refine ab rfl (mO (a:=n+511) (b:=512) rfl rfl rfl ao rfl ao ao) ?_
 refine ar rfl<|aw<|WC.ret (Ret.one Tryz.results64 rfl ?_)
 exact hk
end
end Go.Proofs.YtebpkhlifcffnaaGreatDoor.Fs
namespace Go.Proofs.YtebpkhlifcffnaaGreatDoor.Fs
open Go Go.SL
abbrev Gy(e n:Nat)(xv:Value):Value:=.agg #[.int .i64 (e:Int),.int .i64 (n:Int),xv]
abbrev bV(e n:Nat)(xv:Value):List Value:=[.int .i64 (e:Int),.int .i64 (n:Int),xv]
theorem Kg{xs:List Ext}{j:Nat}(h:j<xs.length):(xs.take (j+1)).flatMap lC=(xs.take j).flatMap lC++lC xs[j]! :=by
 rw[List.take_add_one,get!_of_lt h,List.flatMap_append];simp
def Dc(name:Tx)(n k:Nat):Tx:=bD [name]++cV n++cV k
theorem Hw{files:Nat}{name:Tx}{i:Ino}(h:gE files name i):(Dc name i.n i.x.length).length<=90/\(bD [name]).length<=81/\(cV i.n).length<=3:=by
 obtain⟨g1,g2,_⟩:=h.iU
 have h1:=eu (n:=name.length) (k:=0) ao
 have h2:=eu (n:=i.n) (k:=2) (Nat.lt_of_le_of_lt h.n ct)
 have h3:=eu (n:=i.x.length) (k:=0) (by have:=h.len;omega)
 unfold Dc
 rw[zO ao]
 simp only[List.length_append]
 omega
section
variable{R:List RO}{O:List Own}{POST:Value->List RO->List Own->Prop}
set_option maxRecDepth 20000 in
set_option maxHeartbeats 2000000 in
theorem pj{files e:Nat}{name:Tx}{i:Ino}{xv:Value}(ht:ea∈R)(hx:SlE cW xv i.x∈R)(hio:gE files name i)(hk:POST (vs (bW name i)) R O):Fun Tryz.prog 115 #[vs name,Gy e i.n xv] R O POST:=by
 refine bp<|Fun.sJ hx λhxv=>?_
 obtain⟨hl1,hl2,hl3⟩:=Hw hio
 have hnl:=hio.iU.2.1
 have hn:=hio.n
 have hlen:=hio.len
 have hel:=hio.ent
 have hel4:=hio.LO
 have hexl: ∀j,((i.x.take j).flatMap lC).length<=256:=λj=>by
  have:=pS (xs:=i.x.take j) (λx hx=>(hio.ext x (List.mem_of_mem_take hx)).2)
  rw[List.length_take] at this
  omega
 have hsum:=EF (iT name i)
 refine aC (l:=[_,_]) Tryz.func115 rfl Tryz.ntmps115 rfl (L0:=[(0,_),(1,_)]) rfl ?_
 refine aD<|aq rfl<|OpW.box rfl rfl ba rfl rfl ?_;intro b3
 refine ar rfl<|a7<|aq rfl<|OpW.alloc rfl wa rfl ba rfl rfl ?_;intro b5
 refine aw<|aF<|WC.heap (λw h=>(h.dH (α:=UInt8) (e:=5) (size:=1) (enc:=SL.one vy)).swap) ?_
 refine WC.drawn (az b3 126 (bV e i.n xv)::O) 13 rfl mixed ?_
 refine ae 0 rfl an aN rfl rfl rfl (al rfl rfl) ?_
 refine ae 3 rfl an aN rfl rfl rfl ((by exact ak rfl ix rfl rfl)) ?_
 refine ae 4 rfl an aN rfl rfl rfl ((by exact ax rfl C3 rfl aK (by rfl))) ?_
 refine ae 7 rfl an aN rfl rfl rfl ((by exact ak rfl fm rfl rfl)) ?_
 refine ae 8 rfl an aN rfl rfl rfl ((by exact ax rfl kW rfl aK (by rfl))) ?_
 refine ae 9 rfl an aN rfl rfl rfl (bu (enc:=cW) (xs:=i.x) rfl rfl Tryz.underlying124 aK) ?_
 refine aS 1 rfl an rfl ?_
 refine aX (ps:=[(0,_)]) rfl S37 aZ rfl rfl fy an rfl rfl rfl ?_;intro b12
 refine⟨aN,?_⟩
 refine WD.heap (λw h=>h.gC (m:=1) (enc:=SL.one vs) (xs:=[name]) bh rfl rfl ao) ?_
 refine aS 2 rfl an rfl ?_
 refine aj rfl rfl aZ an rfl rfl rfl ?_
 refine eo (l:=[name]) aK ao ?_
 refine⟨aN,?_⟩
 refine aS 5 rfl an rfl ?_
 refine aj rfl rfl aZ an rfl rfl rfl ?_
 refine nA (p:=(i.n:Int)) ?_
 rw[gA ao]
 refine⟨aN,?_⟩
 refine ae 6 rfl an aN rfl rfl rfl (cA rfl rfl rfl ao) ?_
 refine aS 10 rfl an rfl ?_
 refine aj rfl rfl aZ an rfl rfl rfl ?_
 refine nA (p:=(i.x.length:Int)) ?_
 rw[gA ao]
 refine⟨aN,?_⟩
 refine ae 11 rfl an aN rfl rfl rfl (cA rfl rfl rfl (by rw[List.length_append];unfold Dc at hl1;rw[List.length_append,List.length_append] at hl1;omega)) ?_
 refine aS 12 rfl an rfl ?_
 refine aj rfl rfl aZ an rfl rfl rfl ?_
 refine Fun.heap (R':=R) (O':=az b5 141 [.pointer none,.slice none 0 0]::bt 5 1 (SL.one vy) (.slice none 0 0) []::az b3 126 (bV e i.n xv)::O) bN ?_
 refine lV (off:=0) (bs:=[]) (.inl rfl) rfl rfl an (by show 0+_<=_;unfold Dc at hl1;omega) ?_;intro v23 hv23
 refine⟨aN,?_⟩
 refine WD.done an ?_
 refine aa<|bd<|ab rfl (by exact ak rfl fm rfl rfl) ?_
 refine ab rfl (by exact ax rfl kW rfl aK (by rfl)) ?_
 refine ab rfl (bu (enc:=cW) (xs:=i.x) rfl rfl Tryz.underlying124 aK) ?_
 refine af rfl<|aw<|WC.block ?_
 refine WC.pick [27,5,25,26] eS ?_
 refine WC.ia 1 (λ(j:Nat) (v:Value)=>[(27,.int .i64 (j:Int))]) (λ(j:Nat) (v:Value)=>az b5 141 [fu b5 0,v]::bt 5 1 (SL.one vy) v (Dc name i.n i.x.length++(i.x.take j).flatMap lC)::az b3 126 (bV e i.n xv)::O) (λ(j:Nat) (v:Value)=>j<=i.x.length/\bL v) (λ(j:Nat) (v:Value)=>i.x.length-j) (0) (v23) iw ?hinv1 cC (λw h=>by rw[List.take_zero,List.flatMap_nil,List.append_nil];exact dj h) ?_
 case hinv1=>
  exact⟨Nat.zero_le _,hv23⟩
 intro j v
 rintro⟨j1,j2⟩
 refine aD<|ab rfl (Rd.lss rfl rfl rfl)<|aw ?_
 refine aF<|aE rfl (λhc1=>?_) (λhc1=>?_)
 ·
  have hnx:=Kg (xs:=i.x) (j:=j) ao
  have hok:=hio.ext i.x[j]! (fg ao)
  obtain⟨⟨a,k⟩,hak⟩: ∃q,q=i.x[j]! :=⟨_,rfl⟩
  rw[←hak] at hnx hok
  have hok2:a+k<=4096:=hok.2
  have he1:=eu (n:=a) (k:=1) (Nat.lt_of_le_of_lt (by omega:a<=4096) ct)
  have he2:=eu (n:=k) (k:=1) (Nat.lt_of_le_of_lt (by omega:k<=4096) ct)
  have hj:=hexl j
  refine ay<|aa<|aF<|WC.block ?_
  refine aD<|ab rfl (dy (enc:=cW) (xs:=i.x) (k:=j) rfl tI rfl rfl rfl aK ao) ?_
  refine ab rfl (dM (enc:=cW) (xs:=i.x) (k:=j) (a:=(a,k)) (cs:=[.int .i64 (a:Int),.int .i64 (k:Int)]) rfl sH rfl aK (λ_=>rfl) (by rw[hak];exact get!_of_lt ao) ba) ?_
  refine aq rfl<|OpW.alloc rfl wk rfl ba rfl rfl ?_;intro b7
  refine aq rfl<|aM rfl sH rfl rfl ba bh rfl rfl ba rfl ?_
  refine aw<|WC.drawn (az b7 157 [.int .i64 (a:Int),.int .i64 (k:Int)]::O) 8 rfl mixed ?_
  refine ae 0 rfl an aN rfl rfl rfl ((by exact ak rfl pr rfl rfl)) ?_
  refine ae 1 rfl an aN rfl rfl rfl ((by exact ax rfl C3 rfl aK (by rfl))) ?_
  refine ae 3 rfl an aN rfl rfl rfl ((by exact ak rfl mG rfl rfl)) ?_
  refine ae 4 rfl an aN rfl rfl rfl ((by exact ax rfl C3 rfl aK (by rfl))) ?_
  refine aS 2 rfl an rfl ?_
  refine aj rfl rfl aZ an rfl rfl rfl ?_
  refine nA (p:=(a:Int)) ?_
  rw[gA ao]
  refine⟨aN,?_⟩
  refine aS 5 rfl an rfl ?_
  refine aj rfl rfl aZ an rfl rfl rfl ?_
  refine nA (p:=(k:Int)) ?_
  rw[gA ao]
  refine⟨aN,?_⟩
  refine ae 6 rfl an aN rfl rfl rfl (cA rfl rfl rfl ao) ?_
  refine aS 7 rfl an rfl ?_
  refine aj rfl rfl aZ an rfl rfl rfl ?_
  refine Fun.heap (R':=R) (O':=az b5 141 [fu b5 0,v]::bt 5 1 (SL.one vy) v (Dc name i.n i.x.length++(i.x.take j).flatMap lC)::az b7 157 [.int .i64 (a:Int),.int .i64 (k:Int)]::az b3 126 (bV e i.n xv)::O) bN ?_
  refine lV (off:=0) (.inr rfl) rfl rfl an (by simp only[List.length_append];omega) ?_;intro v38 hv38
  refine⟨aN,?_⟩
  refine WD.done an ?_
  refine aA<|aa<|aB<|ab rfl (Rd.add rfl rfl rfl ao) ?_
  exact af rfl<|aG<|bC.mk (j+1) v38 ⟨by omega,hv38⟩ ao cC (λw h=>by rw[hnx,←List.append_assoc];exact dj h)
 ·
  obtain rfl:j=i.x.length:=by omega
  have hall:Dc name i.n i.x.length++(i.x.take i.x.length).flatMap lC=iT name i:=by rw[List.take_length];rfl
  rw[hall]
  refine WC.exit<|au.exit<|bC.exit<|aH.exit<|aa<|aD<|aq rfl<|aj rfl rfl aZ an rfl rfl rfl ?_
  refine om (off:=0) rfl ?_
  refine ar rfl<|a7<|af rfl<|aq rfl<|aj rfl rfl aZ an rfl rfl rfl ?_
  refine lk ht ao ?_
  refine ar rfl<|aw<|bd<|af rfl<|aU 8 (u:=vs (iT name i++(le4 (dx (iT name i))).take 0)) rfl (by rw[List.take_zero,List.append_nil]) ?_
  refine aw<|WC.block ?_
  refine WC.pick [8,43,9] eS ?_
  refine WC.iJ 2 (λ(m:Nat)=>[(8,vs (iT name i++(le4 (dx (iT name i))).take m)),(43,.int .i64 (m:Int))]) (λ(m:Nat)=>O) (λ(m:Nat)=>m<=4) (λ(m:Nat)=>4-m) (0) iw ?hinv2 cC bN ?_
  case hinv2=>
   exact Nat.zero_le _
  intro m
  rintro m1
  refine aD<|ab rfl (Rd.lss rfl rfl rfl)<|aw ?_
  refine aF<|aE rfl (λhc2=>?_) (λhc2=>?_)
  ·
   have hls:=JE (dx (iT name i)) m
   rw[if_pos ao] at hls
   have hlt:((le4 (dx (iT name i))).take m).length<=4:=by rw[List.length_take];simp[le4];omega
   refine ay<|aa<|aF<|WC.block ?_
   refine aD<|af rfl<|ar rfl<|lE<|af rfl<|af rfl<|af rfl<|ab rfl (Rd.mul rfl rfl rfl ao) ?_
   refine ab rfl (cu (a:=dx (iT name i)) (n:=8*m) rfl rfl rfl rfl ao (by show 8*m<=32;omega)) ?_
   refine ab rfl (cX (kd':=.u8) rfl rfl Tryz.underlying5 (hS:=Tryz.underlying194)) ?_
   refine aU 51 (u:=vy (UInt8.ofNat (dx (iT name i)/256^m%256))) rfl (by rw[ib,show(2:Nat)^(8*m)=256^m from by rw[Nat.pow_mul]]) ?_
   refine aq rfl<|aX (ps:=[(0,_)]) rfl S41 aZ rfl rfl fy an rfl rfl rfl ?_;intro b52
   refine ab rfl (bY (bs:=[UInt8.ofNat (dx (iT name i)/256^m%256)]) rfl Tryz.underlying41 Tryz.underlying9 Tryz.underlying5 rfl aK rfl rfl ao) ?_
   refine ab rfl (cA rfl rfl rfl (by rw[List.length_append];show _+1<=_;omega)) ?_
   refine ar rfl<|aG<|aA<|aa<|aB<|ab rfl (Rd.add rfl rfl rfl ao) ?_
   exact af rfl<|aG<|bq.mk (m+1) ao ao (by refine Sub.cons rfl (by rw[hls,List.append_assoc]) ?_;exact cC) bN
  ·
   obtain rfl:m=4:=by omega
   have e4:(le4 (dx (iT name i))).take 4=le4 (dx (iT name i)):=rfl
   rw[e4]
   refine WC.exit<|au.exit<|bq.exit<|aH.exit<|aa<|aD<|af rfl ?_
   refine aq rfl<|aj rfl rfl aZ an rfl rfl rfl ?_
   refine kX ao ?_
   refine ar rfl<|aw<|WC.ret (Ret.one Tryz.results115 rfl ?_)
   exact⟨_,_,hk,bN⟩
end
end Go.Proofs.YtebpkhlifcffnaaGreatDoor.Fs
namespace Go.Proofs.YtebpkhlifcffnaaGreatDoor.Fs
open Go Go.SL
section
variable{R:List RO}{O:List Own}{POST:Value->List RO->List Own->Prop}
set_option maxRecDepth 20000 in
theorem yV{v:Value}(hv:bL v)(hk: ∀b,POST (.func (.func 225) #[] #[.pointer (some ⟨b,0,none⟩)]) R (az b 124 [v]::O)):Fun Tryz.prog 173 #[v] R O POST:=by
 refine aC (l:=[_]) Tryz.func173 rfl Tryz.ntmps173 rfl (L0:=[(0,_)]) rfl ?_
 refine aD<|aq rfl<|n3 rfl rfl (by assumption) rfl rfl ?_;intro b1
 refine ar rfl<|a7<|ab rfl (Rd.func rfl aZ aZ ⟨_,rfl⟩) ?_
 refine ar rfl<|aw<|WC.ret (Ret.one Tryz.results173 rfl ?_)
 exact hk _
set_option maxRecDepth 20000 in
theorem CC{v:Value}{xs:List Ext}{b l:Nat}{c1:Own}{I:Nat->List Own}(hx:SlE cW v xs∈R)(hl:xs.length<=1000000)(hb: ∀g,az b 124 [v]∈c1::I g)
 (hY: ∀b4 j,j<xs.length->Yld Tryz.prog l [Qh xs[j]!.1 xs[j]!.2] R (az b4 157 (cW xs[j]!)::c1::I j) (λt R' O'=>t=true/\ ∀w,Sat R' O' w->Sat R (c1::I (j+1)) w))
 (hE:POST (.tuple #[]) R (c1::I xs.length)):Fun Tryz.prog 225 #[.func (.yield l) #[] #[],.pointer (some ⟨b,0,none⟩)] R (c1::I 0) POST:=by
 refine bp<|mU (l:=[_,_]) Tryz.func225 rfl Tryz.ntmps225 rfl (L0:=[(0,_),(1,_)]) rfl ?_
 refine WR.seq<|WR.region<|ab rfl (ax (off:=0) (u:=v) rfl kW rfl (hb 0) rfl) ?_
 refine ab rfl (bu (enc:=cW) (xs:=xs) rfl rfl Tryz.underlying124 hx) ?_
 refine af rfl<|aG<|cx.normal<|WR.block ?_
 refine WR.pick [7,0,5,6] eS ?_
 refine WR.iJ 1 (λ(j:Nat)=>[(7,.int .i64 (j:Int))]) (λ(j:Nat)=>c1::I j) (λ(j:Nat)=>j<=xs.length) (λ(j:Nat)=>xs.length-j) (0) iw ?hinv1 cC (λ_ h=>h) ?_
 case hinv1=>
  exact Nat.zero_le _
 intro j
 rintro i1
 refine WR.seq<|WR.region<|ab rfl (Rd.lss rfl rfl rfl)<|aG<|cx.normal<|WR.seq<|WR.ite rfl (λhc1=>?_) (λhc1=>?_)
 ·
  refine WR.skip<|cx.normal<|WR.seq<|WR.block ?_
  refine WR.seq<|WR.region<|ab rfl (dy (enc:=cW) (xs:=xs) (k:=j) rfl tI rfl rfl rfl hx ao) ?_
  refine ab rfl (dM (enc:=cW) (xs:=xs) (k:=j) (a:=xs[j]!) (cs:=[.int .i64 (xs[j]!.1:Int),.int .i64 (xs[j]!.2:Int)]) rfl sH rfl hx (λ_=>rfl) (get!_of_lt ao) ba) ?_
  refine aq rfl<|OpW.alloc rfl wk rfl ba rfl rfl ?_;intro b4
  refine aq rfl<|aM rfl sH rfl rfl ba bh rfl rfl ba rfl ?_
  refine aG<|cx.normal<|WR.seq<|jg<|WY.rd rfl rfl rfl (al rfl rfl)<|WY.rd rfl rfl rfl ((by exact bj rfl sH rfl aK ba rfl)) ?_
  refine WY.yield rfl rfl rfl aZ rfl rfl ?_
  refine(hY b4 j ao).mono ?_;rintro b' R' O' ⟨rfl,hS⟩;refine WY.heap hS ?_
  refine WY.rd rfl rfl rfl ((by exact Rd.not rfl rfl)) ?_
  refine WY.nil<|cx.normal<|WR.cond rfl (λhc2=>?_) (λhc2=>?_)
  ·
   cases hc2
  ·
   refine WR.skip<|aA<|cx.normal<|WR.region<|ab rfl (Rd.add rfl rfl rfl ao) ?_
   exact af rfl<|aG<|bq.mk (j+1) ao ao cC (λ_ h=>h)
 ·
  obtain rfl:j=xs.length:=by omega
  refine WR.exit<|cx.exit<|bq.exit<|aH.exit<|Ret.normal (Ret.zero Tryz.results225 ?_)
  exact⟨_,_,hE,λw h=>h⟩
theorem zM{xs:List Ext}{j:Nat}(h:j<xs.length):cY (xs.take (j+1))=cY (xs.take j)+xs[j]!.2:=by
 rw[List.take_add_one,get!_of_lt h,nq];rfl
theorem zU(xs:List Ext)(j:Nat):cY (xs.take j)<=cY xs:=by
 have:=nq (xs.take j) (xs.drop j)
 rw[List.take_append_drop] at this;omega
set_option maxRecDepth 20000 in
theorem BS{xs:List Ext}{v:Value}(hx:SlE cW v xs∈R)(hl:xs.length<=1000000)(hs:cY xs<=1000000)(hk:POST (.int .i64 (cY xs:Nat)) R O):Fun Tryz.prog 114 #[v] R O POST:=by
 refine bp<|Fun.sJ hx λhv=>?_
 refine aC (l:=[_]) Tryz.func114 rfl Tryz.ntmps114 rfl (L0:=[(0,_)]) rfl ?_
 refine aD<|ar rfl<|a7 ?_
 refine aq rfl<|OpW.alloc rfl I3 rfl ba rfl rfl ?_;intro b3
 refine aq rfl<|aV rfl Z3 rfl rfl (by exact⟨rfl,rfl⟩) bh (by(simp;done)) rfl ?_
 refine aw<|WC.pK<|aB<|af rfl<|aq rfl<|aj rfl rfl aZ an rfl rfl rfl ?_
 refine yV hv ?_;intro b6
 refine aG<|pD.normal<|iy.mk rfl an ?_
 intro l0 D0
 refine Fun.heap (R':=R) (O':=recC l0 _ _ D0 .ready none _ _ _::az b3 3 [.int .i64 (cY (xs.take 0):Nat)]::az b6 124 [v]::dfC D0::O) bN ?_
 refine CC (I:=λj=>az b3 3 [.int .i64 (cY (xs.take j):Nat)]::az b6 124 [v]::dfC D0::O) hx hl (λg=>aK) ?round ?after
 case round=>
  intro b4 j hj
  have hst:=zM hj
  have hle:=zU xs (j+1)
  obtain⟨⟨a,k⟩,hak⟩: ∃q,q=xs[j]! :=⟨_,rfl⟩
  rw[←hak] at hst⊢
  have hst2:cY (xs.take (j+1))=cY (xs.take j)+k:=hst
  refine Yld.round bh rfl rfl rfl ?_
  refine WR.region<|aq rfl<|OpW.alloc rfl wk rfl ba rfl rfl ?_;intro b4
  refine aq rfl<|aM rfl sH rfl rfl ba bh rfl rfl ba rfl ?_
  refine aG<|mK.mk bh ?_
  refine WR.block ?_
  refine WR.region<|ab rfl (by exact ax rfl C3 rfl aK (by rfl)) ?_
  refine ab rfl (by exact ak rfl mG rfl rfl) ?_
  refine ab rfl (by exact ax rfl C3 rfl aK (by rfl)) ?_
  refine ab rfl (by exact qE rfl rfl rfl) ?_
  refine aU 11 (u:=.int .i64 (k:Int)) rfl (by split<;>first|rfl|(congr 1;omega)) ?_
  refine ab rfl (jn rfl rfl rfl)<|aU 12 (u:=.int .i64 (k:Int)) rfl (by split<;>first|rfl|(congr 1;omega)) ?_
  refine ab rfl (Rd.add rfl rfl rfl ao) ?_
  refine ab rfl (jn rfl rfl rfl)<|aU 14 (u:=.int .i64 (cY (xs.take (j+1)):Nat)) rfl (by rw[hst2];split<;>first|rfl|(congr 1;omega)) ?_
  refine aq rfl<|aV rfl Z3 rfl rfl (by exact⟨rfl,rfl⟩) bh (by(simp;done)) rfl ?_
  refine aG<|aA<|nW.on bh ?_
  exact⟨rfl,bN⟩
 case after=>
  rw[List.take_length]
  refine⟨_,bh,?_⟩
  refine aD<|ab rfl (by exact ax rfl C3 rfl aK (by rfl)) ?_
  refine ar rfl<|aw<|WC.Cb (kV.mark bh (kV.nil)) (iD.mk (Ret.one Tryz.results114 rfl ?_))
  exact⟨_,_,hk,bN⟩
set_option maxRecDepth 20000 in
theorem kY{br be k:Nat}{r:Tx}(hn:k<=1099511627776)(hr:r.length<=100000)(hk:POST (.int .i64 (k:Int)) R (az br 9 [vs r]::O)):Fun Tryz.prog 111 #[.pointer (some ⟨br,0,none⟩),.pointer (some ⟨be,0,none⟩)] R (az br 9 [vs (cV k++r)]::O) POST:=by
 have hpl:=c5 k
 have hps:=vI hn
 have hll:(cV k++r).length=more k+1+r.length:=by rw[List.length_append];omega
 refine aC (l:=[_,_]) Tryz.func111 rfl Tryz.ntmps111 rfl (L0:=[(0,_),(1,_)]) rfl ?_
 refine aD<|ar rfl<|a7<|ab rfl (by exact ax rfl C9 rfl aK (by rfl)) ?_
 refine aq rfl<|aj rfl rfl aZ an rfl rfl rfl ?_
 refine AU (s:=cV k++r) (by rw[List.length_append];omega) ?_
 rw[uR hn]
 dsimp only
 refine af rfl<|bH rfl<|bH rfl<|bH rfl<|ar rfl<|ar rfl<|ar rfl<|aw<|bd<|af rfl<|ab rfl (Rd.neq rfl rfl rfl)<|aw<|aE rfl (λhc1=>?_) (λhc1=>?_)
 ·
  exact absurd rfl hc1
 ·
  refine ay<|aa<|aD<|ab rfl (by exact ax rfl C9 rfl aK (by rfl)) ?_
  refine af rfl<|ab rfl (gh (lo:=more k+1) rfl Tryz.underlying9 rfl rfl ao ao) ?_
  refine aU 17 (u:=vs r) rfl (by rw[←hpl,List.drop_left]) ?_
  refine aq rfl<|aV rfl Z9 rfl rfl (by exact⟨rfl,rfl⟩) bh (by(simp;done)) rfl ?_
  refine a7<|af rfl<|ar rfl<|aw ?_
  refine WC.ret (Ret.one Tryz.results111 rfl ?_)
  exact hk
def nr(name:Tx)(i:Ino):Tx:=le4 (dx (iT name i))++List.replicate (512-(iT name i++le4 (dx (iT name i))).length) 0
theorem Br{name:Tx}{i:Ino}(h:name.length<=262144):bW name i=cV name.length++(name++(cV i.n++(cV i.x.length++(i.x.flatMap lC++nr name i)))):=by
 unfold bW bF iT nr
 rw[zO h]
 unfold iT
 rw[zO h]
 simp only[List.append_assoc]
theorem GB{files:Nat}{name:Tx}{i:Ino}(h:gE files name i):4<=(nr name i).length/\(nr name i).length<=512:=by
 have h1:=h.ent
 have h4:=h.LO
 unfold nr
 rw[List.length_append,List.length_replicate]
 show 4<=4+_/\4+_<=512
 rw[List.length_append] at h4⊢
 show 4<=4+(512-(_+4))/\4+(512-(_+4))<=512
 omega
theorem Ij{xs:List Ext}{j:Nat}(h:j<xs.length)(t:Tx):(xs.drop j).flatMap lC++t=cV xs[j]!.1++(cV xs[j]!.2++((xs.drop (j+1)).flatMap lC++t)):=by
 rw[List.drop_eq_getElem_cons h,List.flatMap_cons,←getElem!_pos xs j h]
 unfold lC
 simp only[List.append_assoc]
set_option maxRecDepth 20000 in
set_option maxHeartbeats 4000000 in
theorem Ck{files:Nat}{name:Tx}{i:Ino}(ht:ea∈R)(hio:gE files name i)(hk: ∀v,bL v->POST (.tuple #[vs name,Gy 0 i.n v,.bool true]) (SlE cW v i.x::R) O):Fun Tryz.prog 57 #[vs (bW name i)] R O POST:=by
 refine bp ?_
 have hnl:=hio.iU.2.1
 have hn:=hio.n
 have hlen:=hio.len
 have hlt:=GB hio
 have hel:=hio.entry
 have hparts:=Br (name:=name) (i:=i) ao
 have hexl: ∀j,((i.x.drop j).flatMap lC).length<=256:=λj=>by
  have:=pS (xs:=i.x.drop j) (λx hx=>(hio.ext x (List.mem_of_mem_drop hx)).2)
  rw[List.length_drop] at this
  omega
 have hex0:=hexl 0
 rw[List.drop_zero] at hex0
 have hp1:=eu (n:=i.n) (k:=2) (Nat.lt_of_le_of_lt hn ct)
 have hp2:=eu (n:=i.x.length) (k:=0) ao
 have hp0:=eu (n:=name.length) (k:=0) ao
 have hsum:cY i.x<=2048:=by rw[hio.sum];unfold bc;omega
 obtain⟨T,hT⟩: ∃T,T=cV i.n++(cV i.x.length++(i.x.flatMap lC++nr name i)):=⟨_,rfl⟩
 rw[←hT] at hparts
 have hTl:T.length<=900:=by rw[hT];simp only[List.length_append];omega
 refine aC (l:=[_]) Tryz.func57 rfl Tryz.ntmps57 rfl (L0:=[(0,_)]) rfl ?_
 refine aD<|ar rfl ?_
 refine aq rfl<|OpW.alloc rfl lA rfl ba rfl rfl ?_;intro b3
 refine ar rfl<|a7<|af rfl<|aq rfl<|aj rfl rfl aZ an rfl rfl rfl ?_
 refine rF (s:=bW name i) ao ?_
 rw[hparts,j8 ao,←hparts]
 dsimp only
 refine af rfl<|bH rfl<|bH rfl<|bH rfl<|aq rfl<|OpW.alloc rfl I26 rfl ba rfl rfl ?_;intro b7
 refine ar rfl<|ar rfl<|aq rfl<|aV rfl Z26 rfl rfl (by exact⟨rfl,rfl⟩) bh (by(simp;done)) rfl ?_
 refine a7<|af rfl<|af rfl<|ab rfl (gh (lo:=(cV name.length).length+name.length) (s:=bW name i) rfl Tryz.underlying9 rfl rfl rfl (by rw[hparts];simp only[List.length_append];omega)) ?_
 refine aU 19 (u:=vs T) rfl (by rw[hparts,←List.append_assoc,List.drop_left' (by rw[List.length_append])]) ?_
 refine aq rfl<|OpW.alloc rfl I9 rfl ba rfl rfl ?_;intro b8
 refine aq rfl<|aV rfl Z9 rfl rfl (by exact⟨rfl,rfl⟩) bh (by(simp;done)) rfl ?_
 refine a7<|ab rfl (Rd.func rfl aZ aZ ⟨_,rfl⟩) ?_
 refine ar rfl<|a7<|af rfl<|aq rfl<|aj rfl rfl aZ an rfl rfl rfl ?_
 refine Fun.heap (R':=R) (O':=az b8 9 [vs (cV i.n++(cV i.x.length++(i.x.flatMap lC++nr name i)))]::az b7 26 [.int .i64 0]::az b3 126 (bV 0 0 (.slice none 0 0))::O) (by rw[←hT];exact bN) ?_
 refine kY ao (by simp only[List.length_append];omega) ?_
 refine ab rfl (bO (ps:=[(1,_)]) rfl En lA rfl aZ fy (by apply NFo.mk;repeat(first|exact NF.nil|apply NF.cons))) ?_
 refine aq rfl<|OpW.alloc rfl lA rfl ba rfl rfl ?_;intro b10
 refine aq rfl<|aM rfl iM rfl rfl ba bh rfl rfl ba rfl ?_
 refine aw<|bd<|af rfl ?_
 refine aq rfl<|aj rfl rfl aZ an rfl rfl rfl ?_
 refine Fun.heap (R':=R) (O':=az b8 9 [vs (cV i.x.length++(i.x.flatMap lC++nr name i))]::az b10 126 (bV 0 i.n (.slice none 0 0))::az b7 26 [.int .i64 0]::az b3 126 (bV 0 0 (.slice none 0 0))::O) bN ?_
 refine kY ao (by simp only[List.length_append];omega) ?_
 refine ab rfl (jn rfl rfl rfl)<|aU 26 (u:=.int .i64 (i.x.length:Int)) rfl (by split<;>first|rfl|(congr 1;omega)) ?_
 refine af rfl<|aw<|WC.block ?_
 refine WC.pick [27,0,3,5,7,8,9,10,26] eS ?_
 refine WC.ia 1 (λ(j:Nat) (v:Value)=>[(27,.int .i64 (j:Int))]) (λ(j:Nat) (v:Value)=>az b8 9 [vs ((i.x.drop j).flatMap lC++nr name i)]::az b10 126 (bV 0 i.n v)::bt 157 2 cW v (i.x.take j)::az b7 26 [.int .i64 0]::az b3 126 (bV 0 0 (.slice none 0 0))::O) (λ(j:Nat) (v:Value)=>j<=i.x.length/\bL v) (λ(j:Nat) (v:Value)=>i.x.length-j) (0) (.slice none 0 0) iw ?hinv1 cC (λw h=>by
 have h2:=h.dH (α:=Ext) (e:=157) (size:=2) (enc:=cW)
 rw[List.drop_zero,List.take_zero]
 exact dj h2) ?_
 case hinv1=>
  exact⟨Nat.zero_le _,bL.sl⟩
 intro j v
 rintro⟨j1,j2⟩
 refine aD<|ab rfl (Rd.lss rfl rfl rfl)<|aw ?_
 refine aF<|aE rfl (λhc1=>?_) (λhc1=>?_)
 ·
  have hdr:=Ij (xs:=i.x) (j:=j) ao (nr name i)
  have hok:=hio.ext i.x[j]! (fg ao)
  have hnx:i.x.take (j+1)=i.x.take j++[i.x[j]!]:=by rw[List.take_add_one,get!_of_lt ao];rfl
  obtain⟨⟨a,k⟩,hak⟩: ∃q,q=i.x[j]! :=⟨_,rfl⟩
  rw[←hak] at hdr hok hnx
  have hok2:a+k<=4096:=hok.2
  have hj1:=hexl (j+1)
  have hpk:=eu (n:=k) (k:=1) (Nat.lt_of_le_of_lt (by omega:k<=4096) ct)
  rw[hdr]
  refine ay<|aa<|aF<|WC.block ?_
  refine WC.o9 (az b7 26 [.int .i64 0]::O) ([(10,az b10 126 (bV 0 i.n v))]) 11 rfl mixed ?_
  refine WE.take 0 [] rfl an jE (aP [az b10 126 (bV 0 i.n v)] an cz dI fk) rfl rfl rfl ((by exact ak rfl fm rfl rfl)) ?_
  refine WE.take 1 [(10,az b10 126 (bV 0 i.n v))] rfl an jE (aP [az b10 126 (bV 0 i.n v)] an cz dI fk) rfl rfl rfl ((by exact ax rfl kW rfl aK (by rfl))) ?_
  refine WE.take 2 [] rfl an jE (aP [az b10 126 (bV 0 i.n v)] an cz dI fk) rfl rfl rfl (al rfl rfl) ?_
  refine WE.take 4 [] rfl an jE (aP [az b10 126 (bV 0 i.n v)] an cz dI fk) rfl rfl rfl (al rfl rfl) ?_
  refine WE.one 3 rfl an rfl ?_
  refine aj rfl rfl aZ an rfl rfl rfl ?_
  refine kY ao (by simp only[List.length_append];omega) ?_
  refine⟨(aP [az b10 126 (bV 0 i.n v)] an cz dI fk),?_⟩
  refine WE.one 5 rfl an rfl ?_
  refine aj rfl rfl aZ an rfl rfl rfl ?_
  refine kY ao (by simp only[List.length_append];omega) ?_
  refine⟨(aP [az b10 126 (bV 0 i.n v)] an cz dI fk),?_⟩
  refine WE.take 6 [] rfl an jE (aP [az b10 126 (bV 0 i.n v)] an cz dI fk) rfl rfl rfl (bO (ps:=[(0,_),(1,_)]) rfl Jl wk rfl aZ fy (by apply NFo.mk;repeat(first|exact NF.nil|apply NF.cons))) ?_
  refine WE.one 7 rfl an rfl ?_
  refine aX (ps:=[(0,_)]) rfl tI aZ rfl rfl fy an rfl rfl rfl ?_;intro b36
  refine⟨(aP [az b10 126 (bV 0 i.n v)] an cz dI fk),?_⟩
  refine WE.one 8 rfl an rfl ?_
  refine bR (enc:=cW) rfl tI rfl rfl bh bh [(a,k)] rfl (by rfl) rfl ie ie (by exact⟨by simp only[maxLen,List.length_append,List.length_nil,List.length_cons,List.length_drop,List.length_take,List.length_map];omega,by(simp only[List.length_append,List.length_nil,List.length_cons,List.length_drop,List.length_take,List.length_map];omega)⟩) rfl rfl ?_;intro v37 hv37
  refine⟨(aP [az b10 126 (bV 0 i.n v)] an cz dI fk),?_⟩
  refine WE.take 9 [] rfl an jE (aP [az b10 126 (bV 0 i.n v)] an cz dI fk) rfl rfl rfl ((by exact ak rfl fm rfl rfl)) ?_
  refine WE.one 10 rfl an rfl ?_
  refine aV rfl HK rfl rfl (by assumption) bh (by(simp;done)) rfl ?_
  refine⟨(aP [] an cz dI fk),?_⟩
  refine WE.done an ?_
  refine aA<|aa<|aB<|ab rfl (Rd.add rfl rfl rfl ao) ?_
  exact af rfl<|aG<|bC.mk (j+1) v37 ⟨by omega,hv37⟩ ao cC (λw h=>by rw[hnx];exact dj h)
 ·
  obtain rfl:j=i.x.length:=by omega
  rw[List.drop_length,List.take_length,List.flatMap_nil,List.nil_append]
  refine WC.heap (λw h=>Sat.eE (e:=157) (size:=2) (enc:=cW) (xs:=i.x) (v:=v) bh h) ?_
  refine WC.exit<|au.exit<|bC.exit<|aH.exit<|aa<|aF<|aF<|WC.mL 27 rfl mixed ?_
  refine ae 0 rfl an bw.all rfl rfl rfl ((by exact ax rfl C26 rfl aK (by rfl))) ?_
  refine ae 1 rfl an bw.all rfl rfl rfl (Rd.neq rfl rfl rfl) ?_
  refine ae 2 rfl an bw.all rfl rfl rfl (al rfl rfl) ?_
  refine WD.case 42 rfl (λhg42=>?_) (λhg42=>?_)
  ·
   (exact absurd hg42 ct)
  ·
   refine WD.bM 3 rfl an bw.all rfl rfl rfl rfl rfl rfl (al rfl rfl) ?_
   refine WD.sW 4 rfl an rfl rfl rfl rfl ?_
   refine aj rfl rfl aZ an rfl rfl rfl ?_
   refine rE hio.iU ?_
   refine⟨aN,?_⟩
   refine WD.bM 5 rfl an aN rfl rfl rfl rfl rfl rfl ((by exact Rd.not rfl rfl)) ?_
   refine WD.say 45 (u:=.bool (decide False)) rfl rfl ?_
   refine ae 6 rfl an aN rfl rfl rfl (aQ rfl rfl rfl) ?_
   refine ae 7 rfl an aN rfl rfl rfl (al rfl rfl) ?_
   refine WD.case 47 rfl (λhg47=>?_) (λhg47=>?_)
   ·
    exact hg47.elim
   ·
    refine WD.bM 8 rfl an aN rfl rfl rfl rfl rfl rfl ((by exact ak rfl ix rfl rfl)) ?_
    refine WD.bM 9 rfl an aN rfl rfl rfl rfl rfl rfl ((by exact ax rfl C3 rfl aK (by rfl))) ?_
    refine WD.bM 10 rfl an aN rfl rfl rfl rfl rfl rfl (Rd.gtr rfl rfl rfl) ?_
    refine ae 11 rfl an aN rfl rfl rfl (aQ rfl rfl rfl) ?_
    refine ae 12 rfl an aN rfl rfl rfl (al rfl rfl) ?_
    refine WD.case 52 rfl (λhg52=>?_) (λhg52=>?_)
    ·
     omega
    ·
     refine WD.bM 13 rfl an aN rfl rfl rfl rfl rfl rfl ((by exact ak rfl fm rfl rfl)) ?_
     refine WD.bM 14 rfl an aN rfl rfl rfl rfl rfl rfl ((by exact ax rfl kW rfl aK (by rfl))) ?_
     refine WD.bM 15 rfl an aN rfl rfl rfl rfl rfl rfl (bu (enc:=cW) (xs:=i.x) rfl rfl Tryz.underlying124 aK) ?_
     refine WD.bM 16 rfl an aN rfl rfl rfl rfl rfl rfl (Rd.gtr rfl rfl rfl) ?_
     refine ae 17 rfl an aN rfl rfl rfl (aQ rfl rfl rfl) ?_
     refine ae 18 rfl an aN rfl rfl rfl (al rfl rfl) ?_
     refine WD.case 58 rfl (λhg58=>?_) (λhg58=>?_)
     ·
      omega
     ·
      refine WD.bM 19 rfl an aN rfl rfl rfl rfl rfl rfl ((by exact ak rfl fm rfl rfl)) ?_
      refine WD.bM 20 rfl an aN rfl rfl rfl rfl rfl rfl ((by exact ax rfl kW rfl aK (by rfl))) ?_
      refine WD.bM 22 rfl an aN rfl rfl rfl rfl rfl rfl ((by exact ak rfl ix rfl rfl)) ?_
      refine WD.bM 23 rfl an aN rfl rfl rfl rfl rfl rfl ((by exact ax rfl C3 rfl aK (by rfl))) ?_
      refine WD.sW 21 rfl an rfl rfl rfl rfl ?_
      refine aj rfl rfl aZ an rfl rfl rfl ?_
      refine BS (xs:=i.x) aK ao ao ?_
      refine⟨aN,?_⟩
      refine WD.sW 24 rfl an rfl rfl rfl rfl ?_
      refine aj rfl rfl aZ an rfl rfl rfl ?_
      refine kN ao ?_
      refine⟨aN,?_⟩
      refine WD.bM 25 rfl an aN rfl rfl rfl rfl rfl rfl (Rd.neq rfl rfl rfl) ?_
      refine ae 26 rfl an aN rfl rfl rfl (aQ rfl rfl rfl) ?_
      refine WD.done an ?_
      refine aa<|aE rfl (λhc2=>?_) (λhc2=>?_)
      ·
       ((have:=hio.sum;omega))
      ·
       refine ay<|aa<|aF<|WC.drawn (az b10 126 (bV 0 i.n v)::az b8 9 [vs (nr name i)]::O) 15 rfl mixed ?_
       refine ae 0 rfl an aN rfl rfl rfl (al rfl rfl) ?_
       refine ae 1 rfl an aN rfl rfl rfl ((by exact bj rfl iM rfl aK ba rfl)) ?_
       refine ae 2 rfl an aN rfl rfl rfl ((by exact ax rfl C9 rfl aK (by rfl))) ?_
       refine ae 3 rfl an aN rfl rfl rfl (cg (ts:=#[]) (ty:=0) rfl rfl Tryz.underlying9) ?_
       refine ae 4 rfl an aN rfl rfl rfl (Rd.geq rfl rfl rfl) ?_
       refine ae 5 rfl an aN rfl rfl rfl (al rfl rfl) ?_
       refine WD.case 73 rfl (λhg73=>?_) (λhg73=>?_)
       ·
        refine WD.bM 6 rfl an aN rfl rfl rfl rfl rfl rfl (al rfl rfl) ?_
        refine WD.bM 7 rfl an aN rfl rfl rfl rfl rfl rfl (al rfl rfl) ?_
        refine WD.bM 8 rfl an aN rfl rfl rfl rfl rfl rfl ((by exact bj rfl iM rfl aK ba rfl)) ?_
        refine WD.sW 9 rfl an rfl rfl rfl rfl ?_
        refine aj rfl rfl aZ an rfl rfl rfl ?_
        refine pj (files:=files) (e:=0) aK aK hio ?_
        refine⟨aN,?_⟩
        refine WD.bM 10 rfl an aN rfl rfl rfl rfl rfl rfl (lq rfl rfl rfl) ?_
        refine WD.say 78 (u:=.bool true) rfl (by simp) ?_
        refine ae 11 rfl an aN rfl rfl rfl (aY rfl rfl rfl) ?_
        refine ae 12 rfl an aN rfl rfl rfl (Rd.assign rfl rfl) ?_
        refine aS 13 rfl an rfl ?_
        refine aM (h1:=by simp only[List.all_cons,List.all_nil,j2.one];rfl) rfl iM rfl rfl ba bh rfl rfl ba rfl ?_
        refine⟨aN,?_⟩
        refine ae 14 rfl an aN rfl rfl rfl (Rd.assign rfl rfl) ?_
        refine WD.done an ?_
        refine aa<|WC.ret (kU Tryz.results57 rfl rfl rfl aK iM rfl ?_)
        exact⟨_,_,hk v j2,bN⟩
       ·
        omega
end
end Go.Proofs.YtebpkhlifcffnaaGreatDoor.Fs
namespace Go.Proofs.YtebpkhlifcffnaaGreatDoor.Fs
open Go Go.SL
def pw(F:FS)(name:Tx)(x:Option Ino):FS:=λb=>if b=name then x else F b
theorem dZ(F:FS)(name:Tx)(x:Option Ino):pw F name x name=x:=if_pos rfl
theorem eX{F:FS}{name b:Tx}{x:Option Ino}(h:b≠name):pw F name x b=F b:=if_neg h
theorem FOk.upd{un files:Nat}{F:FS}{sp sp':Nat->Bool}{name:Tx}{x:Ino}(h:FOk un files F sp)(hx:gE files name x)(he: ∀b y,F b=some y->y.e=x.e->b=name)(ht:bU un false sp' x.x)
 (hi: ∀i,sp' i=true↔InX x.x i∨ ∃b y,b≠name/\F b=some y/\InX y.x i) (hd: ∀b y i,b≠name->F b=some y->InX y.x i-> ¬InX x.x i):FOk un files (pw F name (some x)) sp' where
 ok b y hy:=by
  by_cases e:b=name
  ·subst e;rw[dZ] at hy;cases hy;exact hx
  ·rw[eX e] at hy;exact h.ok b y hy
 inj a b y z hy hz hyz:=by
  by_cases e:a=name
  ·subst e
   rw[dZ] at hy;cases hy
   by_cases e2:b=a
   ·exact e2.symm
   ·rw[eX e2] at hz;exact(he b z hz hyz.symm).symm
  ·rw[eX e] at hy
   by_cases e2:b=name
   ·subst e2;rw[dZ] at hz;cases hz;exact he a y hy hyz
   ·rw[eX e2] at hz;exact h.inj a b y z hy hz hyz
 tk b y hy:=by
  by_cases e:b=name
  ·subst e;rw[dZ] at hy;cases hy;exact ht
  ·rw[eX e] at hy
   exact(h.tk b y hy).congr λi hin=>(hi i).2 (.inr ⟨b,y,e,hy,hin⟩)
 dis a b y z i hy hz h1 h2:=by
  by_cases e:a=name
  ·subst e
   rw[dZ] at hy;cases hy
   by_cases e2:b=a
   ·exact e2.symm
   ·rw[eX e2] at hz;exact absurd h1 (hd b z i e2 hz h2)
  ·rw[eX e] at hy
   by_cases e2:b=name
   ·subst e2;rw[dZ] at hz;cases hz;exact absurd h2 (hd a y i e hy h1)
   ·rw[eX e2] at hz;exact h.dis a b y z i hy hz h1 h2
 all i hs:=by
  rcases(hi i).1 hs with hin|⟨b,y,hb,hy,hin⟩
  ·exact⟨name,x,dZ _ _ _,hin⟩
  ·exact⟨b,y,by rw[eX hb];exact hy,hin⟩
def jP(sp:Nat->Bool):Option Ino->(Nat->Bool)
 |none=>sp
 |some x=>bP false sp x.x
def Ba(c:Nat×Tx):Chg:=((2+c.1:Nat),c.2)
def cL(bs:Tx)(ch:List (Nat×Tx)):List Chg:=(1,bs)::ch.map Ba
theorem KO{L:List Tx}{c:Chg}{i:Nat}(h:c.1.toNat≠i):(iv L c)[i]? =L[i]? :=by unfold iv;rw[List.getElem?_set_ne h]
theorem j9{L:List Tx}{c:Chg}{i:Nat}(h:c.1.toNat=i)(hi:i<L.length):(iv L c)[i]? =some (bF c.2):=by
 unfold iv;rw[←h,List.getElem?_set_self ao]
theorem uX(L:List Tx)(c:Chg):(iv L c).length=L.length:=by unfold iv;rw[List.length_set]
theorem Eh: ∀(ch:List (Nat×Tx)) (L:List Tx),(ch.map (·.1)).Nodup->(∀c∈ch,2+c.1<L.length)-> ∀c∈ch,(a6 (ch.map Ba) L)[2+c.1]? =some (bF c.2)
 |d::r,L,hn,hl,c,hc=>by
  show(a6 (r.map Ba) (iv L (Ba d)))[2+c.1]? =_
  rw[List.map_cons,List.nodup_cons] at hn
  rcases List.mem_cons.1 hc with rfl|hc
  ·rw[bk]
   ·exact j9 (c:=Ba c) (by show((2+c.1:Nat):Int).toNat=_;omega) (hl c List.mem_cons_self)
   ·intro y hy
    obtain⟨z,hz,rfl⟩:=List.mem_map.1 hy
    show((2+z.1:Nat):Int).toNat≠_
    intro e
    exact hn.1 (by rw[show c.1=z.1 from by omega];exact List.mem_map_of_mem hz)
  ·exact Eh r _ hn.2 (λy hy=>by rw[uX];exact hl y (List.mem_cons_of_mem _ hy)) c hc
theorem uy{ch:List (Nat×Tx)}{bs:Tx}{i:Nat}(h0:i≠1)(h: ∀c∈ch,2+c.1≠i):oO (cL bs ch) i:=by
 intro c hc
 rcases List.mem_cons.1 hc with rfl|hc
 ·show(1:Int).toNat≠i;omega
 ·obtain⟨z,hz,rfl⟩:=List.mem_map.1 hc
  show((2+z.1:Nat):Int).toNat≠i
  have:=h z hz;omega
theorem gF.settle{n files:Nat}{F F':FS}{sp sp':Nat->Bool}{L:List Tx}{ch:List (Nat×Tx)}(h:gF n files F sp L)(hn:7+files<n)(hf:FOk (n-(7+files)) files F' sp')(hun:n<=4096)(hch:(ch.map (·.1)).Nodup)(hci: ∀c∈ch,c.1<files/\c.2.length<=512)
 (hin: ∀c∈ch,Eo F' c.1 (some (bF c.2))) (hout: ∀i,i<files->(∀c∈ch,c.1≠i)-> ∀l,Eo F i l->Eo F' i l):
 gF n files F' sp' (a6 (cL (spB (n-(7+files)) sp') ch) L):=by
 have hlen:=h.len
 have hbl:(spB (n-(7+files)) sp').length<=512:=by rw[fU];omega
 have e0: ∀c∈ch,(a6 (cL (spB (n-(7+files)) sp') ch) L)[2+c.1]? =some (bF c.2):=λc hc=>Eh ch _ hch (λc hc=>by rw[uX];have:=(hci c hc).1;omega) c hc
 have e1:(a6 (cL (spB (n-(7+files)) sp') ch) L)[1]? =some (bF (spB (n-(7+files)) sp')):=by
  show(a6 (ch.map Ba) (iv L (1,spB (n-(7+files)) sp')))[1]? =_
  rw[bk]
  ·exact j9 (by rfl) ao
  ·intro y hy
   obtain⟨z,hz,rfl⟩:=List.mem_map.1 hy
   show((2+z.1:Nat):Int).toNat≠_
   omega
 refine⟨hf,by rw[dJ];exact hlen,?_,by rw[bk _ _ 0 (uy ao (λc _=>by omega))];exact h.head,e1,λi hi=>?_⟩
 ·have key: ∀(x:List Chg) (M:List Tx),(∀l∈M,l.length=512)->(∀c∈x,c.2.length<=512)-> ∀l∈a6 x M,l.length=512:=by
   intro x
   induction x with
   |nil=>intro M hM _;exact hM
   |cons c r ih=>
    intro M hM hx
    refine ih _ (λl hl=>?_) (λd hd=>hx d (List.mem_cons_of_mem _ hd))
    rcases List.mem_or_eq_of_mem_set hl with h1|h1
    ·exact hM l h1
    ·rw[h1];exact fH (hx c List.mem_cons_self)
  refine key _ _ h.w λc hc=>?_
  rcases List.mem_cons.1 hc with rfl|hc
  ·exact hbl
  ·obtain⟨z,hz,rfl⟩:=List.mem_map.1 hc;exact(hci z hz).2
 ·by_cases hc: ∃c∈ch,c.1=i
  ·obtain⟨c,hc,rfl⟩:=hc
   rw[e0 c hc];exact hin c hc
  ·have hc': ∀c∈ch,c.1≠i:=λc h1 h2=>hc ⟨c,h1,h2⟩
   rw[bk _ _ (2+i) (uy ao (λc h1=>by have:=hc' c h1;omega))]
   exact hout i hi hc' _ (h.ent i hi)
theorem Fa{x:List Chg}: ∀{M:List Tx},(∀l∈M,l.length=512)->(∀c∈x,c.2.length<=512)-> ∀l∈a6 x M,l.length=512:=by
 induction x with
 |nil=>intro M hM _;exact hM
 |cons c r ih=>
  intro M hM hx
  refine ih (λl hl=>?_) (λd hd=>hx d (List.mem_cons_of_mem _ hd))
  rcases List.mem_or_eq_of_mem_set hl with h1|h1
  ·exact hM l h1
  ·rw[h1];exact fH (hx c List.mem_cons_self)
end Go.Proofs.YtebpkhlifcffnaaGreatDoor.Fs
namespace Go.Proofs.YtebpkhlifcffnaaGreatDoor.Fs
open Go Go.SL
def bQ:List Nat->Tx->List Chg
 | [],_=>[]
 |i::r,d=>((i:Int),d.take 512)::bQ r (d.drop 512)
def bT(da:Nat)(xs:List Ext):List Nat:=(gX xs).map (da+ ·)
theorem kO: ∀(l:List Nat) (d:Tx),(bQ l d).length=l.length
 | [],_=>rfl
 |_::r,d=>by rw[bQ,List.length_cons,kO r,List.length_cons]
theorem kJ: ∀{l:List Nat} {d:Tx} {c:Chg},c∈bQ l d->(∃i∈l,c.1=(i:Int))/\c.2.length<=512
 |i::r,d,c,h=>by
  rcases List.mem_cons.1 h with rfl|h
  ·exact⟨⟨i,List.mem_cons_self,rfl⟩,by show(d.take 512).length<=_;rw[List.length_take];omega⟩
  ·obtain⟨⟨j,hj,e⟩,h2⟩:=kJ h
   exact⟨⟨j,List.mem_cons_of_mem _ hj,e⟩,h2⟩
theorem Gv{l:List Nat}{d:Tx}{n:Nat}(h: ∀i∈l,i<n):OkC n (bQ l d):=λc hc=>by
 obtain⟨⟨i,hi,e⟩,h2⟩:=kJ hc
 have:=h i hi
 exact⟨by omega,by omega,h2⟩
theorem df{l:List Nat}{d:Tx}{i:Nat}(h:i∉l):oO (bQ l d) i:=λc hc e=>by
 obtain⟨⟨j,hj,e2⟩,_⟩:=kJ hc
 exact h (by rw[show i=j by omega];exact hj)
theorem nh: ∀(l:List Nat) (d:Tx) (L:List Tx),l.Nodup->(∀i∈l,i<L.length)->d.length<=512*l.length->(l.flatMap λi=>(a6 (bQ l d) L)[i]!).take d.length=d
 | [],d,L,_,_,h=>by
   obtain rfl:d=[]:=List.length_eq_zero_iff.1 (by simpa using h)
   rfl
 |i::r,d,L,hn,hi,h=>by
  rw[List.nodup_cons] at hn
  have e0:a6 (bQ (i::r) d) L=a6 (bQ r (d.drop 512)) (iv L ((i:Int),d.take 512)):=rfl
  have hl:=hi i List.mem_cons_self
  have e1:(a6 (bQ (i::r) d) L)[i]! =bF (d.take 512):=by
   refine iG ?_
   rw[e0,bk _ _ i (df hn.1)]
   exact j9 (c:=((i:Int),d.take 512)) (by show(i:Int).toNat=i;omega) hl
  have h12:(d.take 512).length<=512:=by rw[List.length_take];omega
  have hfl:=fH h12
  rw[List.flatMap_cons,e1]
  rcases Nat.lt_or_ge 512 d.length with hg|hg
  ·have hf:bF (d.take 512)=d.take 512:=by
    unfold bF;rw[List.length_take,Nat.min_eq_left ao];simp
   have ih:=nh r (d.drop 512) (iv L ((i:Int),d.take 512)) hn.2 (λj hj=>by rw[uX];exact hi j (List.mem_cons_of_mem _ hj)) (by rw[List.length_drop];rw[List.length_cons] at h;omega)
   rw[←e0] at ih
   rw[List.take_append,hf,List.take_of_length_le (by rw[List.length_take];omega),List.length_take,Nat.min_eq_left ao,←List.length_drop,ih,List.take_append_drop]
  ·rw[List.take_append_of_le_length ao,List.take_of_length_le hg]
   unfold bF
   rw[List.take_append_of_le_length (Nat.le_refl _),List.take_length]
theorem oI{da:Nat}{xs:List Ext}{i:Nat}:i∈bT da xs↔ ∃u,InX xs u/\i=da+u:=by
 unfold bT
 rw[List.mem_map]
 constructor
 ·rintro⟨u,hu,rfl⟩;exact⟨u,qV.1 hu,rfl⟩
 ·rintro⟨u,hu,rfl⟩;exact⟨u,qV.2 hu,rfl⟩
theorem lR{n da:Nat}{v:Bool}{xs:List Ext}{f:Nat->Bool}(h:bU n v f xs):(bT da xs).Nodup:=
 List.Pairwise.map _ (λa b (hab:a≠b)=>by simpa using hab) (rU h)
theorem dC(da:Nat)(xs:List Ext):(bT da xs).length=cY xs:=by unfold bT;rw[List.length_map,xi]
theorem yr(da:Nat)(xs ys:List Ext):bT da (xs++ys)=bT da xs++bT da ys:=by unfold bT;rw[GL,List.map_append]
theorem bU.unit{n:Nat}{v:Bool}{xs:List Ext}{f:Nat->Bool}(h:bU n v f xs){i:Nat}(hi:InX xs i):i<n/\f i= !v:=by
 obtain⟨x,hx,h1,h2⟩:=hi
 obtain⟨_,g2,g3⟩:=h.mem x hx
 exact⟨by omega,g3 i h1 h2⟩
def dB(L:List Tx)(l:List Nat):Tx:=l.flatMap λi=>L[i]!
theorem fP(L:List Tx)(da:Nat)(i:Ino):jy L da i=(dB L (bT da i.x)).take i.n:=by
 unfold jy dB bT
 rw[List.flatMap_map]
theorem j5(L:List Tx)(a b:List Nat):dB L (a++b)=dB L a++dB L b:=by unfold dB;rw[List.flatMap_append]
theorem gO{L M:List Tx}{l:List Nat}(h: ∀i∈l,M[i]? =L[i]?):dB M l=dB L l:=by
 unfold dB
 rw[List.flatMap_def,List.flatMap_def]
 congr 1
 refine List.map_congr_left λu hu=>?_
 rw[List.getElem!_eq_getElem?_getD,List.getElem!_eq_getElem?_getD,h u hu]
theorem lM{L:List Tx}(hw: ∀t∈L,t.length=512): ∀{l:List Nat},(∀i∈l,i<L.length)->(dB L l).length=512*l.length
 | [],_=>rfl
 |i::r,h=>by
  have ih:=lM hw (l:=r) (λj hj=>h j (List.mem_cons_of_mem _ hj))
  have hi:=h i List.mem_cons_self
  have e:L[i]!.length=512:=by rw[getElem!_pos L i hi];exact hw _ (List.getElem_mem _)
  unfold dB at ih⊢
  rw[List.flatMap_cons,List.length_append,ih,e,List.length_cons];omega
theorem uN{files:Nat}{name:Tx}{i:Ino}(h:gE files name i):bF (bW name i)=bW name i:=oC (by have:=h.LO;omega)
structure jc(n files:Nat)(F:FS)(sp:Nat->Bool)(name d:Tx)(e:Nat)(xs:List Ext):Prop where
 iU:oU name
 dl:d.length<=1048576
 lt:e<files
 old: ∀b y,F b=some y->(y.e=e↔b=name)
 take:bU (n-(7+files)) true sp xs
 sum:cY xs=bc d.length
 len:xs.length<=64
section
variable{n files:Nat}{F:FS}{sp:Nat->Bool}{L:List Tx}{name d:Tx}{e:Nat}{xs:List Ext}
theorem jc.ino(h:jc n files F sp name d e xs)(hn:n<=4096):gE files name ⟨e,d.length,xs⟩:=
 ⟨h.iU,h.lt,h.dl,h.len,h.sum,λx hx=>by obtain⟨g1,g2,_⟩:=h.take.mem x hx;exact⟨g1,by omega⟩⟩
theorem jc.free(h:jc n files F sp name d e xs)(hf:FOk (n-(7+files)) files F sp){b:Tx}{y:Ino}(hy:F b=some y){i:Nat}(hi:InX y.x i): ¬InX xs i:=λhc=>by
 have h1:=(h.take.unit hc).2
 have h2:=(hf.on hy hi).1
 rw[h2] at h1;cases h1
theorem jc.iff(h:jc n files F sp name d e xs)(hf:FOk (n-(7+files)) files F sp)(i:Nat):jP (bP true sp xs) (F name) i=true↔InX xs i∨ ∃b y,b≠name/\F b=some y/\InX y.x i:=by
 have e1:bP true sp xs i=true↔InX xs i∨sp i=true:=by
  rw[iE]
  constructor
  ·intro hh
   split at hh
   ·rename_i hc;exact .inl (mF.1 hc)
   ·exact .inr hh
  ·rintro(hh|hh)
   ·rw[mF.2 hh,if_pos rfl]
   ·split
    ·rfl
    ·exact hh
 cases hF:F name with
 |none=>
  show bP true sp xs i=true↔_
  rw[e1,hf.iff]
  refine or_congr Iff.rfl ⟨λ⟨b,y,hy,hi⟩=>⟨b,y,(by rintro rfl;rw[hF] at hy;cases hy),hy,hi⟩,λ⟨b,y,_,hy,hi⟩=>⟨b,y,hy,hi⟩⟩
 |some x=>
  show bP false (bP true sp xs) x.x i=true↔_
  rw[iE]
  constructor
  ·intro hh
   split at hh
   ·cases hh
   ·rename_i hc
    rcases e1.1 hh with h1|h1
    ·exact .inl h1
    ·obtain⟨b,y,hy,hi⟩:=hf.all i h1
     refine .inr ⟨b,y,?_,hy,hi⟩
     rintro rfl
     rw[hF] at hy;cases hy
     exact hc (mF.2 hi)
  ·rintro(hh|⟨b,y,hb,hy,hi⟩)
   ·have hn:inX x.x i=false:=ou.2 λhc=>h.free hf hF hc hh
    rw[hn,if_neg (by simp),e1];exact .inl hh
   ·have hn:inX x.x i=false:=ou.2 λhc=>hb (hf.dis b name y x i hy hF hi hc)
    rw[hn,if_neg (by simp),e1];exact .inr (hf.on hy hi).1
theorem jc.fok(h:jc n files F sp name d e xs)(hf:FOk (n-(7+files)) files F sp)(hn:n<=4096):FOk (n-(7+files)) files (pw F name (some ⟨e,d.length,xs⟩)) (jP (bP true sp xs) (F name)):=
 hf.upd (h.ino hn) (λb y hy he=>(h.old b y hy).1 he) (h.take.back.congr λi hi=>(h.iff hf i).2 (.inl hi)) (h.iff hf) (λ_ _ _ _ hy hi=>h.free hf hy hi)
theorem jO(hf:gF n files F sp L){b:Tx}{y:Ino}(hy:F b=some y): ∀i∈bT (7+files) y.x,7+files<=i/\i<L.length:=λi hi=>by
 obtain⟨u,hu,rfl⟩:=oI.1 hi
 have:=(hf.fok.on hy hu).2
 have:=hf.len
 omega
theorem pn(hf:gF n files F sp L)(ht:bU (n-(7+files)) true sp xs): ∀i∈bT (7+files) xs,7+files<=i/\i<L.length:=λi hi=>by
 obtain⟨u,hu,rfl⟩:=oI.1 hi
 have:=(ht.unit hu).1
 have:=hf.len
 omega
theorem jV(hf:gF n files F sp L)(ht:bU (n-(7+files)) true sp xs){b:Tx}{y:Ino}(hy:F b=some y){i:Nat}(hi:i∈bT (7+files) y.x):i∉bT (7+files) xs:=λhc=>by
 obtain⟨u,hu,rfl⟩:=oI.1 hi
 obtain⟨v,hv,e⟩:=oI.1 hc
 obtain rfl:u=v:=by omega
 have h1:=(ht.unit hv).2
 rw[(hf.fok.on hy hu).1] at h1;cases h1
theorem kp{M:List Tx}{da:Nat}{b:Tx}(h: ∀y,F b=some y-> ∀i∈bT da y.x,M[i]? =L[i]?):ej M da F b=ej L da F b:=by
 unfold ej
 cases hy:F b with
 |none=>rfl
 |some y=>show some _=some _;rw[fP,fP,gO (h y hy)]
theorem EA(hf:gF n files F sp L)(ht:bU (n-(7+files)) true sp xs){sub:List Chg}(hs:List.Sublist sub (bQ (bT (7+files) xs) d)):gF n files F sp (a6 sub L)/\ ∀b,ej (a6 sub L) (7+files) F b=ej L (7+files) F b:=by
 have hlt:=pn hf ht
 refine⟨hf.same (by rw[dJ];exact hf.len) (Fa hf.w λc hc=>(kJ (hs.subset hc)).2) (λi hi=>bk _ _ _ (fr (df λhc=>by have:=(hlt i hc).1;omega) hs)),λb=>kp λy hy i hi=>bk _ _ _ (fr (df (jV hf ht hy hi)) hs)⟩
theorem qA{bs:Tx}{ch:List (Nat×Tx)}{i:Nat}(hc: ∀c∈ch,c.1<files)(hi:7+files<=i):oO (cL bs ch) i:=uy ao (λc h=>by have:=hc c h;omega)
theorem Hb(hf:gF n files F sp L)(h:jc n files F sp name d e xs)(hn:7+files<n)(hn2:n<=4096):
 gF n files (pw F name (some ⟨e,d.length,xs⟩)) (jP (bP true sp xs) (F name)) (a6 (cL (spB (n-(7+files)) (jP (bP true sp xs) (F name))) [(e,bW name ⟨e,d.length,xs⟩)]) (a6 (bQ (bT (7+files) xs) d) L))/\
 ∀b,ej (a6 (cL (spB (n-(7+files)) (jP (bP true sp xs) (F name))) [(e,bW name ⟨e,d.length,xs⟩)]) (a6 (bQ (bT (7+files) xs) d) L)) (7+files) (pw F name (some ⟨e,d.length,xs⟩)) b=if b=name then some d else ej L (7+files) F b:=by
 have hio:=h.ino hn2
 obtain⟨h1,h2⟩:=EA (d:=d) hf h.take (List.Sublist.refl _)
 have hci: ∀c∈ [(e,bW name ⟨e,d.length,xs⟩)],c.1<files:=λc hc=>by rw[List.mem_singleton.1 hc];exact h.lt
 refine⟨h1.settle hn (h.fok hf.fok hn2) hn2 (by simp) (λc hc=>?_) (λc hc=>?_) (λi hi hne l hl=>?_),λb=>?_⟩
 ·rw[List.mem_singleton.1 hc];exact⟨h.lt,by show(bW _ _).length<=_;rw[hio.entry];exact Nat.le_refl _⟩
 ·rw[List.mem_singleton.1 hc]
  exact .inl ⟨name,_,dZ _ _ _,rfl,by rw[uN hio]⟩
 ·have hie:e≠i:=hne _ List.mem_cons_self
  rcases hl with⟨b,y,hy,he,hl⟩|⟨hl1,hl2⟩
  ·refine .inl ⟨b,y,?_,he,hl⟩
   rw[eX];exact hy
   rintro rfl
   exact hie ((((h.old b y hy).2 rfl).symm).trans he)
  ·refine .inr ⟨λb y hy=>?_,hl2⟩
   by_cases eb:b=name
   ·subst eb;rw[dZ] at hy;cases hy;exact hie
   ·rw[eX eb] at hy;exact hl1 b y hy
 ·by_cases eb:b=name
  ·subst eb
   rw[if_pos rfl]
   unfold ej
   rw[dZ]
   show some _=some _
   rw[fP,gO (λi hi=>bk _ _ i (qA hci (pn hf h.take i hi).1))]
   congr 1
   refine nh _ _ _ (lR h.take) (λi hi=>(pn hf h.take i hi).2) ?_
   rw[dC,h.sum];unfold bc;omega
  ·rw[if_neg eb,←h2 b]
   unfold ej
   rw[eX eb]
   exact kp λy hy i hi=>bk _ _ i (qA hci (jO hf hy i hi).1)
end
end Go.Proofs.YtebpkhlifcffnaaGreatDoor.Fs
namespace Go.Proofs.YtebpkhlifcffnaaGreatDoor.Fs
open Go Go.SL
section
variable{n files:Nat}{F:FS}{sp:Nat->Bool}{L:List Tx}{name d:Tx}{x:Ino}{xs:List Ext}
structure oQ(n files:Nat)(F:FS)(sp:Nat->Bool)(name d:Tx)(x:Ino)(xs:List Ext):Prop where
 is:F name=some x
 dl:x.n+d.length<=1048576
 ne:d≠ []
 take:bU (n-(7+files)) true sp xs
 sum:cY xs=bc (x.n+d.length)-bc x.n
 len:x.x.length+xs.length<=64
def du(x:Ino):Nat:=x.n%512
def eK(da:Nat)(x:Ino):Nat:=(bT da x.x)[(bT da x.x).length-1]!
def fM(da:Nat)(x:Ino)(xs:List Ext):List Nat:=if 0<du x then eK da x::bT da xs else bT da xs
def kj(L:List Tx)(da:Nat)(x:Ino)(d:Tx):Tx:=if 0<du x then(L[eK da x]!).take (du x)++d else d
abbrev qo(x:Ino)(d:Tx)(xs:List Ext):Ino:=⟨x.e,x.n+d.length,x.x++xs⟩
theorem oQ.ino(h:oQ n files F sp name d x xs)(hf:FOk (n-(7+files)) files F sp)(hn:n<=4096):gE files name (qo x d xs):=by
 have hk:=hf.ok name x h.is
 refine⟨hk.iU,hk.e,h.dl,by show(x.x++xs).length<=64;rw[List.length_append];exact h.len,?_,λy hy=>?_⟩
 ·show cY (x.x++xs)=_
  rw[nq,hk.sum,h.sum]
  have:bc x.n<=bc (x.n+d.length):=by unfold bc;omega
  show _=bc (x.n+d.length)
  omega
 ·rcases List.mem_append.1 hy with hy|hy
  ·exact hk.ext y hy
  ·obtain⟨g1,g2,_⟩:=h.take.mem y hy;exact⟨g1,by omega⟩
theorem oQ.free(h:oQ n files F sp name d x xs)(hf:FOk (n-(7+files)) files F sp){b:Tx}{y:Ino}(hy:F b=some y){i:Nat}(hi:InX y.x i): ¬InX xs i:=λhc=>by
 have h1:=(h.take.unit hc).2
 rw[(hf.on hy hi).1] at h1;cases h1
theorem p3{i:Nat}:bP true sp xs i=true↔InX xs i∨sp i=true:=by
 rw[iE]
 constructor
 ·intro hh
  split at hh
  ·rename_i hc;exact .inl (mF.1 hc)
  ·exact .inr hh
 ·rintro(hh|hh)
  ·rw[mF.2 hh,if_pos rfl]
  ·split
   ·rfl
   ·exact hh
theorem Fe{a b:List Ext}{i:Nat}:InX (a++b) i↔InX a i∨InX b i:=by
 unfold InX
 constructor
 ·rintro⟨y,hy,h⟩
  rcases List.mem_append.1 hy with hy|hy
  ·exact .inl ⟨y,hy,h⟩
  ·exact .inr ⟨y,hy,h⟩
 ·rintro(⟨y,hy,h⟩|⟨y,hy,h⟩)
  ·exact⟨y,List.mem_append_left _ hy,h⟩
  ·exact⟨y,List.mem_append_right _ hy,h⟩
theorem oQ.fok(h:oQ n files F sp name d x xs)(hf:FOk (n-(7+files)) files F sp)(hn:n<=4096):FOk (n-(7+files)) files (pw F name (some (qo x d xs))) (bP true sp xs):=by
 refine hf.upd (h.ino hf hn) (λb y hy he=>hf.inj b name y x hy h.is he) ?_ (λi=>?_) (λb y i hb hy h1 h2=>?_)
 ·show bU _ false _ (x.x++xs)
  refine bU.app.2 ⟨(hf.tk name x h.is).congr λi hi=>p3.2 (.inr (hf.on h.is hi).1),h.take.back.congr λi hi=>?_⟩
  rw[iE,ou.2 (λhc=>h.free hf h.is hc hi),if_neg (by simp)]
  exact p3.2 (.inl hi)
 ·show _↔InX (x.x++xs) i∨_
  rw[p3,Fe]
  constructor
  ·rintro(hi|hi)
   ·exact .inl (.inr hi)
   ·obtain⟨b,y,hy,hin⟩:=hf.all i hi
    by_cases e:b=name
    ·subst e;rw[h.is] at hy;cases hy;exact .inl (.inl hin)
    ·exact .inr ⟨b,y,e,hy,hin⟩
  ·rintro((hi|hi)|⟨b,y,hb,hy,hi⟩)
   ·exact .inr (hf.on h.is hi).1
   ·exact .inl hi
   ·exact .inr (hf.on hy hi).1
 ·rcases Fe.1 h2 with h2|h2
  ·exact hb (hf.dis b name y x i hy h.is h1 h2)
  ·exact h.free hf hy h1 h2
theorem lT{da:Nat}(hk:cY x.x=bc x.n)(ht:0<du x):eK da x∈bT da x.x:=by
 have:0<(bT da x.x).length:=by rw[dC,hk];unfold bc;unfold du at ht;omega
 unfold eK
 rw[getElem!_pos _ _ ao]
 exact List.getElem_mem _
def nl(da:Nat)(x:Ino):List Nat:=(bT da x.x).take ((bT da x.x).length-1)
theorem uj{da i:Nat}(h:i∈nl da x):i∈bT da x.x:=List.mem_of_mem_take h
theorem pf{da:Nat}(hk:cY x.x=bc x.n)(ht:0<du x):bT da x.x=nl da x++[eK da x]:=by
 have:0<(bT da x.x).length:=by rw[dC,hk];unfold bc;unfold du at ht;omega
 have e:=List.take_append_drop ((bT da x.x).length-1) (bT da x.x)
 have e2:(bT da x.x).drop ((bT da x.x).length-1)=[eK da x]:=by
  rw[List.drop_eq_getElem_cons ao,List.drop_eq_nil_of_le ao]
  unfold eK
  rw[getElem!_pos _ _ ao]
 rw[e2] at e
 exact e.symm
theorem pX{A B:Tx}{t m:Nat}(h:m=A.length+t):(A++B).take m=A++B.take t:=by
 subst h
 rw[List.take_append,List.take_of_length_le ao,Nat.add_sub_cancel_left]
theorem rl(L:List Tx)(i:Nat):dB L [i]=L[i]! :=by unfold dB;simp
theorem BN(hf:gF n files F sp L)(h:oQ n files F sp name d x xs): ∀i∈fM (7+files) x xs,7+files<=i/\i<L.length:=λi hi=>by
 unfold fM at hi
 split at hi
 ·rename_i ht
  rcases List.mem_cons.1 hi with rfl|hi
  ·exact jO hf h.is _ (lT (hf.fok.ok name x h.is).sum ht)
  ·exact pn hf h.take i hi
 ·exact pn hf h.take i hi
theorem Gi(hf:gF n files F sp L)(h:oQ n files F sp name d x xs):(fM (7+files) x xs).Nodup:=by
 unfold fM
 split
 ·rename_i ht
  exact List.nodup_cons.2 ⟨jV hf h.take h.is (lT (hf.fok.ok name x h.is).sum ht),lR h.take⟩
 ·exact lR h.take
theorem Mk(hf:gF n files F sp L)(h:oQ n files F sp name d x xs){b:Tx}{y:Ino}(hb:b≠name)(hy:F b=some y){i:Nat}(hi:i∈bT (7+files) y.x):i∉fM (7+files) x xs:=λhc=>by
 unfold fM at hc
 split at hc
 ·rename_i ht
  rcases List.mem_cons.1 hc with rfl|hc
  ·obtain⟨u,hu,e1⟩:=oI.1 hi
   obtain⟨v,hv,e2⟩:=oI.1 (lT (da:=7+files) (hf.fok.ok name x h.is).sum ht)
   obtain rfl:u=v:=by omega
   exact hb (hf.fok.dis b name y x u hy h.is hu hv)
  ·exact jV hf h.take hy hi hc
 ·exact jV hf h.take hy hi hc
theorem tW(hf:gF n files F sp L)(h:oQ n files F sp name d x xs)(ht:0<du x):((L[eK (7+files) x]!).take (du x)).length=du x:=by
 have hl:=(jO hf h.is _ (lT (hf.fok.ok name x h.is).sum ht)).2
 have e:(L[eK (7+files) x]!).length=512:=by rw[getElem!_pos L _ hl];exact hf.w _ (List.getElem_mem _)
 rw[List.length_take,e];unfold du;omega
theorem wC(hf:gF n files F sp L)(h:oQ n files F sp name d x xs)(ht:0<du x):jy L (7+files) x=dB L (nl (7+files) x)++(L[eK (7+files) x]!).take (du x)/\
 x.n=(dB L (nl (7+files) x)).length+du x:=by
 have hk:=(hf.fok.ok name x h.is).sum
 have hsp:=pf (da:=7+files) hk ht
 have hl:x.n=(dB L (nl (7+files) x)).length+du x:=by
  rw[lM hf.w (λi hi=>(jO hf h.is i (uj hi)).2)]
  unfold nl
  rw[List.length_take,dC,hk]
  unfold bc du at*
  omega
 exact⟨by rw[fP,hsp,j5,rl,pX hl],hl⟩
theorem KC{c:Chg}{r y:List Chg}(h:List.Sublist y (c::r)):List.Sublist y r∨ ∃y',y=c::y'/\List.Sublist y' r:=by
 cases h with
 |cons _ h=>exact .inl h
 |cons_cons _ h=>exact .inr ⟨_,rfl,h⟩
theorem E7(hf:gF n files F sp L)(h:oQ n files F sp name d x xs){sub:List Chg}(hs:List.Sublist sub (bQ (fM (7+files) x xs) (kj L (7+files) x d))):gF n files F sp (a6 sub L)/\ ∀b,ej (a6 sub L) (7+files) F b=ej L (7+files) F b:=by
 have hlt:=BN hf h
 refine⟨hf.same (by rw[dJ];exact hf.len) (Fa hf.w λc hc=>(kJ (hs.subset hc)).2) (λi hi=>bk _ _ _ (fr (df λhc=>by have:=(hlt i hc).1;omega) hs)),λb=>?_⟩
 by_cases hb:b=name
 ·subst hb
  unfold ej
  rw[h.is]
  show some _=some _
  by_cases ht:0<du x
  ·have hk:=(hf.fok.ok b x h.is).sum
   have hsp:=pf (da:=7+files) hk ht
   have hlm:=lT (da:=7+files) hk ht
   obtain⟨e1,e2⟩:=wC hf h ht
   have hnd:=lR (da:=7+files) (hf.fok.tk b x h.is)
   rw[hsp,List.nodup_append] at hnd
   have hU:dB (a6 sub L) (nl (7+files) x)=dB L (nl (7+files) x):=by
    refine gO λi hi=>bk _ _ _ (fr (df λhc=>?_) hs)
    unfold fM at hc
    rw[if_pos ht] at hc
    rcases List.mem_cons.1 hc with hc|hc
    ·exact hnd.2.2 i hi _ (List.mem_singleton.2 rfl) hc
    ·exact jV hf h.take h.is (uj hi) hc
   have hT:((a6 sub L)[eK (7+files) x]!).take (du x)=(L[eK (7+files) x]!).take (du x):=by
    have hno:eK (7+files) x∉bT (7+files) xs:=jV hf h.take h.is hlm
    unfold fM kj at hs
    rw[if_pos ht,if_pos ht] at hs
    rcases KC hs with hs2|⟨sub',rfl,hs2⟩
    ·rw[List.getElem!_eq_getElem?_getD,bk _ _ _ (fr (df hno) hs2),←List.getElem!_eq_getElem?_getD]
    ·have e3:(a6 ((((eK (7+files) x:Nat):Int),((L[eK (7+files) x]!).take (du x)++d).take 512)::sub') L)[eK (7+files) x]! =bF (((L[eK (7+files) x]!).take (du x)++d).take 512):=by
      refine iG ?_
      show(a6 sub' (iv L _))[_]? =_
      rw[bk _ _ _ (fr (df hno) hs2)]
      exact j9 (by show((eK (7+files) x:Nat):Int).toNat=_;omega) (jO hf h.is _ hlm).2
     rw[e3]
     have htl:=tW hf h ht
     have ht5:du x<=512:=by unfold du;omega
     unfold bF
     rw[List.take_append_of_le_length (by rw[List.length_take,List.length_append];omega),List.take_take,Nat.min_eq_left ht5,List.take_append_of_le_length ao,List.take_of_length_le ao]
   have key:jy (a6 sub L) (7+files) x=dB (a6 sub L) (nl (7+files) x)++((a6 sub L)[eK (7+files) x]!).take (du x):=by
    rw[fP,hsp,j5,rl,pX (by rw[hU];exact e2)]
   rw[key,e1,hU,hT]
  ·rw[fP,fP]
   congr 2
   refine gO λi hi=>bk _ _ _ (fr (df λhc=>?_) hs)
   unfold fM at hc
   rw[if_neg ht] at hc
   exact jV hf h.take h.is hi hc
 ·exact kp λy hy i hi=>bk _ _ _ (fr (df (Mk hf h hb hy hi)) hs)
theorem Me(hf:gF n files F sp L)(h:oQ n files F sp name d x xs)(hn:7+files<n)(hn2:n<=4096):
 gF n files (pw F name (some (qo x d xs))) (bP true sp xs) (a6 (cL (spB (n-(7+files)) (bP true sp xs)) [(x.e,bW name (qo x d xs))]) (a6 (bQ (fM (7+files) x xs) (kj L (7+files) x d)) L))/\
 ∀b,ej (a6 (cL (spB (n-(7+files)) (bP true sp xs)) [(x.e,bW name (qo x d xs))]) (a6 (bQ (fM (7+files) x xs) (kj L (7+files) x d)) L)) (7+files) (pw F name (some (qo x d xs))) b=if b=name then some (jy L (7+files) x++d) else ej L (7+files) F b:=by
 have hio:=h.ino hf.fok hn2
 have hk:=hf.fok.ok name x h.is
 obtain⟨h1,h2⟩:=E7 hf h (List.Sublist.refl _)
 have hci: ∀c∈ [(x.e,bW name (qo x d xs))],c.1<files:=λc hc=>by rw[List.mem_singleton.1 hc];exact hk.e
 refine⟨h1.settle hn (h.fok hf.fok hn2) hn2 (by simp) (λc hc=>?_) (λc hc=>?_) (λi hi hne l hl=>?_),λb=>?_⟩
 ·rw[List.mem_singleton.1 hc];exact⟨hk.e,by show(bW _ _).length<=_;rw[hio.entry];exact Nat.le_refl _⟩
 ·rw[List.mem_singleton.1 hc]
  exact .inl ⟨name,_,dZ _ _ _,rfl,by rw[uN hio]⟩
 ·have hie:x.e≠i:=hne _ List.mem_cons_self
  rcases hl with⟨b,y,hy,he,hl⟩|⟨hl1,hl2⟩
  ·refine .inl ⟨b,y,?_,he,hl⟩
   rw[eX];exact hy
   rintro rfl
   rw[h.is] at hy;cases hy
   exact hie he
  ·refine .inr ⟨λb y hy=>?_,hl2⟩
   by_cases eb:b=name
   ·subst eb;rw[dZ] at hy;cases hy;exact hie
   ·rw[eX eb] at hy;exact hl1 b y hy
 ·by_cases eb:b=name
  ·subst eb
   rw[if_pos rfl]
   unfold ej
   rw[dZ]
   show some _=some _
   have hsame: ∀i∈bT (7+files) (qo x d xs).x,(a6 (cL (spB (n-(7+files)) (bP true sp xs)) [(x.e,bW b (qo x d xs))]) (a6 (bQ (fM (7+files) x xs) (kj L (7+files) x d)) L))[i]? =(a6 (bQ (fM (7+files) x xs) (kj L (7+files) x d)) L)[i]? :=λi hi=>by
    refine bk _ _ i (qA hci ?_)
    have hi':i∈bT (7+files) x.x++bT (7+files) xs:=by rw[←yr];exact hi
    rcases List.mem_append.1 hi' with hi|hi
    ·exact(jO hf h.is i hi).1
    ·exact(pn hf h.take i hi).1
   rw[fP,gO hsame]
   congr 1
   show(dB _ (bT (7+files) (x.x++xs))).take (x.n+d.length)=_
   rw[yr,j5]
   have hcr:=nh (fM (7+files) x xs) (kj L (7+files) x d) L (Gi hf h) (λi hi=>(BN hf h i hi).2)
   obtain⟨M,hM⟩: ∃M,M=a6 (bQ (fM (7+files) x xs) (kj L (7+files) x d)) L:=⟨_,rfl⟩
   rw[←hM] at hcr⊢
   have hsn:=h.sum
   by_cases ht:0<du x
   ·obtain⟨e1,e2⟩:=wC hf h ht
    have htl:=tW hf h ht
    have hsp:=pf (da:=7+files) hk.sum ht
    have hnd:=lR (da:=7+files) (hf.fok.tk b x h.is)
    rw[hsp,List.nodup_append] at hnd
    have hU:dB M (nl (7+files) x)=dB L (nl (7+files) x):=by
     rw[hM]
     refine gO λi hi=>bk _ _ _ (df λhc=>?_)
     unfold fM at hc
     rw[if_pos ht] at hc
     rcases List.mem_cons.1 hc with hc|hc
     ·exact hnd.2.2 i hi _ (List.mem_singleton.2 rfl) hc
     ·exact jV hf h.take h.is (uj hi) hc
    have hl1:(kj L (7+files) x d).length=du x+d.length:=by
     unfold kj;rw[if_pos ht,List.length_append,htl]
    have hl2:(fM (7+files) x xs).length=1+cY xs:=by unfold fM;rw[if_pos ht,List.length_cons,dC];omega
    have hcr':=hcr (by rw[hl1,hl2,hsn];unfold bc du at*;omega)
    rw[hsp,j5,hU,List.append_assoc]
    have e4:dB M [eK (7+files) x]++dB M (bT (7+files) xs)=dB M (fM (7+files) x xs):=by
     rw[←j5];unfold fM;rw[if_pos ht];rfl
    rw[e4,e1,List.append_assoc,pX (t:=(kj L (7+files) x d).length) (by rw[hl1];omega)]
    congr 1
    refine Eq.trans hcr' ?_
    unfold kj;rw[if_pos ht]
   ·have ht0:x.n%512=0:=by unfold du at ht;omega
    have hU:dB M (bT (7+files) x.x)=dB L (bT (7+files) x.x):=by
     rw[hM]
     refine gO λi hi=>bk _ _ _ (df λhc=>?_)
     unfold fM at hc
     rw[if_neg ht] at hc
     exact jV hf h.take h.is hi hc
    have hUl:(dB L (bT (7+files) x.x)).length=x.n:=by
     rw[lM hf.w (λi hi=>(jO hf h.is i hi).2),dC,hk.sum];unfold bc;omega
    unfold fM kj at hcr
    rw[if_neg ht,if_neg ht] at hcr
    have hcr':=hcr (by rw[dC,hsn];unfold bc;omega)
    rw[hU,pX (t:=d.length) ao,fP,List.take_of_length_le (Nat.le_of_eq hUl)]
    congr 1
  ·rw[if_neg eb,←h2 b]
   unfold ej
   rw[eX eb]
   exact kp λy hy i hi=>bk _ _ i (qA hci (jO hf hy i hi).1)
end
end Go.Proofs.YtebpkhlifcffnaaGreatDoor.Fs
namespace Go.Proofs.YtebpkhlifcffnaaGreatDoor.Fs
open Go Go.SL
section
variable{n files:Nat}{F:FS}{sp:Nat->Bool}{L:List Tx}{name tn:Tx}{x:Ino}
theorem B0{M:List Tx}(hf:gF n files F sp L)(hs: ∀i,7+files<=i->M[i]? =L[i]?)(b:Tx):ej M (7+files) F b=ej L (7+files) F b:=kp λ_ hy i hi=>hs i (jO hf hy i hi).1
end
def lS(s:DSt)(l:List Nat)(d:Tx):DSt×Nat:=if l=[] then(s,0) else cF s (bQ l d)
def opS(s:DSt)(f z:Int)(l:List Nat)(d bs:Tx)(ch:List (Nat×Tx)):DSt×Nat:=cJ (lS s l d) λt=>cf t f z (cL bs ch)
section
variable{f z n:Nat}
def Qo(f z n:Nat)(L:List Tx)(x ch:List Chg)(M:List Tx):Prop:=(∃sub,List.Sublist sub x/\StA f z n (a6 sub L) M)∨GA f z n (a6 x L) ch M
theorem StA.refl{L:List Tx}(hl:L.length=n)(hz:Zero f L):StA f z n L L:=⟨hl,hz,λ_ _=>rfl⟩
theorem IN{s:DSt}{l:List Nat}{d bs:Tx}{ch:List (Nat×Tx)}(hs:Clean f z n s)(hl: ∀i∈l,f+z<=i/\i<n)(hx:qh f z n (cL bs ch)):
 (opS s f z l d bs ch).1.since=[]/\((opS s f z l d bs ch).2=0/\(opS s f z l d bs ch).1.off=false/\StA f z n (a6 (cL bs ch) (a6 (bQ l d) s.aJ)) (opS s f z l d bs ch).1.aJ/\(s.left=0->(opS s f z l d bs ch).1.left=0)∨
   s.left≠0/\(opS s f z l d bs ch).2=7/\(opS s f z l d bs ch).1.off=true/\Qo f z n s.aJ (bQ l d) (cL bs ch) (opS s f z l d bs ch).1.aJ):=by
 have hne:cL bs ch≠ []:=by unfold cL;exact List.cons_ne_nil _ _
 obtain⟨ga,gb,gc,gd⟩:=hx.1.1
 unfold opS lS
 by_cases h0:l=[]
 ·subst h0
  rw[if_pos rfl]
  unfold cJ
  rw[if_neg (λh=>h rfl)]
  obtain⟨c1,c2⟩:=th hs hx hne
  refine⟨c1,?_⟩
  rcases c2 with c2|⟨d0,d1,d2,d3⟩
  ·exact .inl c2
  ·exact .inr ⟨d0,d1,d2,.inr d3⟩
 ·rw[if_neg h0]
  obtain⟨a1,a2⟩:=jo (x:=bQ l d) hs.off hs.since (by rw[hs.len];exact Gv λi hi=>(hl i hi).2)
  obtain⟨p,hp⟩: ∃p,p=cF s (bQ l d):=⟨_,rfl⟩
  rw[←hp] at a1 a2⊢
  rcases a2 with⟨b1,b2,b3,b4⟩|⟨b0,b1,b2,sub,b3,b4⟩
  ·unfold cJ
   rw[if_neg (by rw[b1];exact λh=>h rfl)]
   have hz:Zero f p.1.aJ:=by unfold Zero;rw[b3,bk _ _ f (df λhc=>by have:=(hl f hc).1;omega)];exact hs.zero
   have hcl:Clean f z n p.1:=⟨b2,a1,by rw[b3,dJ];exact hs.len,hz⟩
   obtain⟨c1,c2⟩:=th hcl hx hne
   refine⟨c1,?_⟩
   rcases c2 with⟨d1,d2,d3,d4⟩|⟨d0,d1,d2,d3⟩
   ·exact .inl ⟨d1,d2,by rw[←b3];exact d3,λh=>d4 (b4 h)⟩
   ·exact .inr ⟨λh=>d0 (b4 h),d1,d2,.inr (by rw[←b3];exact d3)⟩
  ·unfold cJ
   rw[if_pos (by rw[b1];decide)]
   refine⟨a1,.inr ⟨b0,b1,b2,.inl ⟨sub,b3,?_⟩⟩⟩
   rw[b4]
   refine StA.refl (by rw[dJ];exact hs.len) ?_
   unfold Zero
   rw[bk _ _ f (fr (df λhc=>by have:=(hl f hc).1;omega) b3)];exact hs.zero
theorem Ak{t:DSt}{L:List Tx}{x ch:List Chg}(ho:t.off=false)(hs:t.since=[])(h0:t.left=0)(hx:qh f z n ch)(hne:ch≠ [])(hL:L.length=n)(h:Qo f z n L x ch t.aJ):
 (cE t f z).2.2=0/\(cE t f z).1.off=false/\(cE t f z).1.since=[]/\(cE t f z).1.left=0/\((∃sub,List.Sublist sub x/\StA f z n (a6 sub L) (cE t f z).1.aJ)∨StA f z n (a6 ch (a6 x L)) (cE t f z).1.aJ):=by
 rcases h with⟨sub,h1,h2⟩|h
 ·rw[oF hx.1.1 ⟨ho,hs,h2.len,h2.zero⟩]
  exact⟨rfl,ho,hs,h0,.inl ⟨sub,h1,h2⟩⟩
 ·obtain⟨k1,k2⟩:=Jg ho hs (by rw[dJ];exact hL) h hx hne
  rcases k2 with⟨l1,l2,l3,l4,_⟩|⟨l0,_⟩
  ·refine⟨l1,l2,k1,l4 h0,?_⟩
   rcases l3 with l3|l3
   ·exact .inl ⟨x,List.Sublist.refl _,l3⟩
   ·exact .inr l3
  ·exact absurd h0 l0
end
section
variable{n files:Nat}{F F':FS}{sp sp':Nat->Bool}
structure Mnt(n files:Nat)(F:FS)(sp:Nat->Bool)(s:DSt):Prop where
 inv:gF n files F sp s.aJ
 cl:Clean (2+files) 5 n s
theorem gF.sta{T M:List Tx}(h:gF n files F sp T)(hs:StA (2+files) 5 n T M)(hw: ∀l∈M,l.length=512):gF n files F sp M/\ ∀b,ej M (7+files) F b=ej T (7+files) F b:=
 ⟨h.same hs.len hw (λi hi=>hs.out i (.inl ao)),B0 h (λi hi=>hs.out i (.inr ao))⟩
structure RN(n files:Nat)(F F':FS)(sp sp':Nat->Bool)(C C':Tx->Option Tx)(s:DSt)(p:DSt×Nat):Prop where
 since:p.1.since=[]
 res:(p.2=0/\Mnt n files F' sp' p.1/\(∀b,ej p.1.aJ (7+files) F' b=C' b)/\(s.left=0->p.1.left=0))∨
  (s.left≠0/\p.2=7/\p.1.off=true/\ ∀t:DSt,t=onS p.1->(cE t ((2+files:Nat):Int) 5).2.2=0/\(cE t ((2+files:Nat):Int) 5).1.left=0/\
    (Mnt n files F sp (cE t ((2+files:Nat):Int) 5).1/\(∀b,ej (cE t ((2+files:Nat):Int) 5).1.aJ (7+files) F b=C b)∨
      Mnt n files F' sp' (cE t ((2+files:Nat):Int) 5).1/\(∀b,ej (cE t ((2+files:Nat):Int) 5).1.aJ (7+files) F' b=C' b)))
theorem Kb{s:DSt}{m:Nat}{l:List Nat}{d:Tx}{ch:List (Nat×Tx)}{C C':Tx->Option Tx}(hm:Mnt n files F sp s)(dk:Dk s m)(hn:7+files<n)(hn2:n<=4096)(hl: ∀i∈l,7+files<=i/\i<n)(hchl:ch.length<=3)(hci: ∀c∈ch,c.1<files/\c.2.length<=512)
 (h0: ∀sub,List.Sublist sub (bQ l d)->gF n files F sp (a6 sub s.aJ)/\ ∀b,ej (a6 sub s.aJ) (7+files) F b=C b)
 (h1:gF n files F' sp' (a6 (cL (spB (n-(7+files)) sp') ch) (a6 (bQ l d) s.aJ))/\ ∀b,ej (a6 (cL (spB (n-(7+files)) sp') ch) (a6 (bQ l d) s.aJ)) (7+files) F' b=C' b):
 RN n files F F' sp sp' C C' s (opS s ((2+files:Nat):Int) 5 l d (spB (n-(7+files)) sp') ch):=by
 have hbl:(spB (n-(7+files)) sp').length<=512:=by rw[fU];omega
 have htame:qh (2+files) 5 n (cL (spB (n-(7+files)) sp') ch):=by
  refine⟨⟨⟨by omega,by omega,by omega,hn2⟩,by unfold cL;rw[List.length_cons,List.length_map];omega⟩,λc hc=>?_⟩
  rcases List.mem_cons.1 hc with rfl|hc
  ·exact⟨.inl ⟨by show(0:Int)<=1;omega,by show(1:Int)<_;omega⟩,hbl⟩
  ·obtain⟨y,hy,rfl⟩:=List.mem_map.1 hc
   obtain⟨g1,g2⟩:=hci y hy
   exact⟨.inl ⟨by show(0:Int)<=((2+y.1:Nat):Int);omega,by show((2+y.1:Nat):Int)<_;omega⟩,g2⟩
 have hdk:Dk (opS s ((2+files:Nat):Int) 5 l d (spB (n-(7+files)) sp') ch).1 (m+l.length+1+300):=by
  have hlay:Dk (lS s l d).1 (m+l.length+1):=by
   unfold lS
   split
   ·exact dk.mono ao
   ·have:=(iK (x:=bQ l d) dk).1;rw[kO] at this;exact this
  unfold opS cJ
  split
  ·exact hlay.mono ao
  ·exact(xm hlay ao _).1
 obtain⟨p,hp⟩: ∃p,p=opS s ((2+files:Nat):Int) 5 l d (spB (n-(7+files)) sp') ch:=⟨_,rfl⟩
 obtain⟨a1,a2⟩:=IN (d:=d) hm.cl (λi hi=>by have:=hl i hi;omega) htame
 have e5:((5:Nat):Int)=5:=rfl
 rw[e5] at a1 a2
 rw[←hp] at a1 a2 hdk⊢
 refine⟨a1,?_⟩
 rcases a2 with⟨b1,b2,b3,b4⟩|⟨b0,b1,b2,b3⟩
 ·obtain⟨c1,c2⟩:=h1.1.sta b3 hdk.w.aJ
  exact .inl ⟨b1,⟨c1,b2,a1,b3.len,b3.zero⟩,λb=>(c2 b).trans (h1.2 b),b4⟩
 ·refine .inr ⟨b0,b1,b2,λt ht=>?_⟩
  have hlast:t.aJ=p.1.aJ:=by rw[ht];rfl
  have hdt:Dk t (m+l.length+1+300):=by rw[ht];exact⟨hdk.ok.on,hdk.w.on⟩
  obtain⟨k1,k2,k3,k4,k5⟩:=Ak (t:=t) (by rw[ht];rfl) (by rw[ht];exact a1) (by rw[ht];rfl) htame (by unfold cL;exact List.cons_ne_nil _ _) hm.cl.len (by rw[hlast];exact b3)
  rw[e5] at k1 k2 k3 k4 k5
  have hw: ∀y∈(cE t ((2+files:Nat):Int) 5).1.aJ,y.length=512:=(yb hdt _ _).1.w.aJ
  refine⟨k1,k4,?_⟩
  rcases k5 with⟨sub,q1,q2⟩|q2
  ·obtain⟨r1,r2⟩:=h0 sub q1
   obtain⟨c1,c2⟩:=r1.sta q2 hw
   exact .inl ⟨⟨c1,k2,k3,q2.len,q2.zero⟩,λb=>(c2 b).trans (r2 b)⟩
  ·obtain⟨c1,c2⟩:=h1.1.sta q2 hw
   exact .inr ⟨⟨c1,k2,k3,q2.len,q2.zero⟩,λb=>(c2 b).trans (h1.2 b)⟩
end
end Go.Proofs.YtebpkhlifcffnaaGreatDoor.Fs
namespace Go.Proofs.YtebpkhlifcffnaaGreatDoor.Fs
open Go Go.SL
abbrev MI:=Nat×Nat×Value×List Ext
abbrev miV(q:MI):Value:=Gy q.1 q.2.1 q.2.2.1
def miI(q:MI):Ino:=⟨q.1,q.2.1,q.2.2.2⟩
def eB(m:aO Tx MI):FS:=λb=>(m.get b).map miI
def allM(m:aO Tx MI):RO:=λw=> ∀b q,m.get b=some q->SlE cW q.2.2.1 q.2.2.2 w
abbrev Ib(d l mb un files:Nat)(sp:Nat->Bool)(off:Bool):List Value:=[dp d,dp l,.int .i64 (un:Int),vs (spB un sp),.map (some mb),.int .i64 (files:Int),.bool off]
abbrev oY(s d l mb un files:Nat)(sp:Nat->Bool)(off:Bool):Own:=az s 77 (Ib d l mb un files sp off)
abbrev stO(s d l mb un files:Nat)(sp:Nat->Bool)(off:Bool)(m:aO Tx MI)(V:DV)(D:DSt)(O:List Own):List Own:=dO d V D (oY s d l mb un files sp off::fl vs miV mb m::O)
def eI(l:List Nat):List Int:=l.map λ(i:Nat)=>(i:Int)
theorem eA(l:List Nat):(eI l).length=l.length:=by unfold eI;rw[List.length_map]
theorem tT{l:List Nat}{j:Nat}(h:j<l.length):(eI l)[j]? =some ((l[j]! :Nat):Int):=by
 unfold eI;rw[List.getElem?_map,get!_of_lt h];rfl
theorem Jp{da j:Nat}{xs:List Ext}(h:j<xs.length):eI (bT da (xs.take (j+1)))=eI (bT da (xs.take j))++(List.range xs[j]!.2).map (λi=>((da+xs[j]!.1+i:Nat):Int)):=by
 rw[List.take_add_one,get!_of_lt h,yr]
 unfold eI
 rw[List.map_append]
 congr 1
 show(bT da [xs[j]!]).map _=_
 unfold bT gX
 simp[Nat.add_assoc]
section
variable{R:List RO}{O:List Own}{POST:Value->List RO->List Own->Prop}
set_option maxRecDepth 20000 in
set_option maxHeartbeats 2000000 in
theorem iz{s files:Nat}{cs:List Value}{xs:List Ext}{xv:Value}(hx:SlE cW xv xs∈R)(hO:az s 77 cs∈O)(hcs:cs[5]? =some (.int .i64 (files:Int)))(hf:files<=5000)(hxl:xs.length<=1000)(hxs: ∀x∈xs,x.1+x.2<=4096)
 (hk: ∀v,POST v (SlE (SL.one vi) v (eI (bT (7+files) xs))::R) O):Fun Tryz.prog 67 #[dp s,xv] R O POST:=by
 refine bp ?_
 have hsl: ∀j,cY (xs.take j)<=4096*j:=λj=>by
  induction j with
  |zero=>exact Nat.zero_le _
  |succ j ih=>
   rcases Nat.lt_or_ge j xs.length with h|h
   ·have:=hxs _ (fg h)
    rw[zM h];omega
   ·rw[List.take_of_length_le ao] at ih⊢;omega
 refine aC (l:=[_,_]) Tryz.func67 rfl Tryz.ntmps67 rfl (L0:=[(0,_),(1,_)]) rfl ?_
 refine aD<|ar rfl<|a7<|ar rfl ?_
 refine WL.heap (λw h=>h.dH (α:=Int) (e:=3) (size:=1) (enc:=SL.one vi)) ?_
 refine aw<|bd<|af rfl<|ab rfl (bu (enc:=cW) (xs:=xs) rfl rfl Tryz.underlying124 aK) ?_
 refine af rfl<|aw<|WC.block ?_
 refine WC.pick [11,5,0,9,10] eS ?_
 refine WC.ia 2 (λ(j:Nat) (v:Value)=>[(11,.int .i64 (j:Int)),(5,v)]) (λ(j:Nat) (v:Value)=>bt 3 1 (SL.one vi) v (eI (bT (7+files) (xs.take j)))::O) (λ(j:Nat) (v:Value)=>j<=xs.length/\bL v) (λ(j:Nat) (v:Value)=>xs.length-j) (0) (.slice none 0 0) iw ?hinv1 cC (λw h=>by rw[show eI (bT (7+files) (xs.take 0))=[] from rfl];exact h) ?_
 case hinv1=>
  exact⟨Nat.zero_le _,bL.sl⟩
 intro j v
 rintro⟨j1,j2⟩
 refine aD<|ab rfl (Rd.lss rfl rfl rfl)<|aw ?_
 refine aF<|aE rfl (λhc1=>?_) (λhc1=>?_)
 ·
  have hnx:=Jp (da:=7+files) (xs:=xs) (j:=j) ao
  have hok:=hxs _ (fg (l:=xs) (i:=j) ao)
  have hlj:(eI (bT (7+files) (xs.take j))).length<=4096*1000:=by rw[eA,dC];have:=hsl j;omega
  obtain⟨⟨a,k⟩,hak⟩: ∃q,q=xs[j]! :=⟨_,rfl⟩
  rw[←hak] at hnx hok
  have hok2:a+k<=4096:=hok
  refine ay<|aa<|aF<|WC.block ?_
  refine aD<|ab rfl (dy (enc:=cW) (xs:=xs) (k:=j) rfl tI rfl rfl rfl hx ao) ?_
  refine ab rfl (dM (enc:=cW) (xs:=xs) (k:=j) (a:=(a,k)) (cs:=[.int .i64 (a:Int),.int .i64 (k:Int)]) rfl sH rfl hx (λ_=>rfl) (by rw[hak];exact get!_of_lt ao) ba) ?_
  refine aq rfl<|OpW.alloc rfl wk rfl ba rfl rfl ?_;intro b7
  refine aq rfl<|aM rfl sH rfl rfl ba bh rfl rfl ba rfl ?_
  refine a7<|ab rfl (by exact ak rfl mG rfl rfl) ?_
  refine ab rfl (by exact ax rfl C3 rfl aK (by rfl)) ?_
  refine af rfl<|aw<|WC.block ?_
  refine WC.pick [17,5,0,7,9,10,11,16] eS ?_
  refine WC.ia 2 (λ(i:Nat) (u:Value)=>[(17,.int .i64 (i:Int)),(5,u)]) (λ(i:Nat) (u:Value)=>bt 3 1 (SL.one vi) u (eI (bT (7+files) (xs.take j))++(List.range i).map (λi=>((7+files+a+i:Nat):Int)))::az b7 157 [.int .i64 (a:Int),.int .i64 (k:Int)]::O) (λ(i:Nat) (u:Value)=>i<=k/\bL u) (λ(i:Nat) (u:Value)=>k-i) (0) (v) iw ?hinv2 cC (λw h=>by rw[List.range_zero,List.map_nil,List.append_nil];exact dj h) ?_
  case hinv2=>
   exact⟨Nat.zero_le _,j2⟩
  intro i u
  rintro⟨i1,i2⟩
  refine aD<|ab rfl (Rd.lss rfl rfl rfl)<|aw ?_
  refine aF<|aE rfl (λhc2=>?_) (λhc2=>?_)
  ·
   have hri:(List.range i).length=i:=List.length_range
   refine ay<|aa<|aF<|WC.block ?_
   refine aD<|af rfl<|ar rfl<|aw ?_
   refine WC.drawn (az b7 157 [.int .i64 (a:Int),.int .i64 (k:Int)]::O) 14 rfl mixed ?_
   refine ae 0 rfl an aN rfl rfl rfl (al rfl rfl) ?_
   refine ae 1 rfl an aN rfl rfl rfl (al rfl rfl) ?_
   refine ae 2 rfl an aN rfl rfl rfl (aL rfl rfl) ?_
   refine ae 3 rfl an aN rfl rfl rfl ((by exact ak rfl DE rfl rfl)) ?_
   refine ae 4 rfl an aN rfl rfl rfl (ax (off:=5) (u:=.int .i64 (files:Int)) rfl C3 rfl (by repeat(first|exact hO|refine List.mem_cons_of_mem _ ?_)) hcs) ?_
   refine ae 6 rfl an aN rfl rfl rfl ((by exact ak rfl pr rfl rfl)) ?_
   refine ae 7 rfl an aN rfl rfl rfl ((by exact ax rfl C3 rfl aK (by rfl))) ?_
   refine ae 9 rfl an aN rfl rfl rfl (al rfl rfl) ?_
   refine aS 5 rfl an rfl ?_
   refine aj rfl rfl aZ an rfl rfl rfl ?_
   refine k8 hf ?_
   refine⟨aN,?_⟩
   refine ae 8 rfl an aN rfl rfl rfl (Rd.add rfl rfl rfl ao) ?_
   refine ae 10 rfl an aN rfl rfl rfl (Rd.add rfl rfl rfl ao) ?_
   refine WD.say 30 (u:=.int .i64 ((7+files+a+i:Nat):Int)) rfl (by rfl) ?_
   refine aS 11 rfl an rfl ?_
   refine aX (ps:=[(0,_)]) rfl S23 aZ rfl rfl fy an rfl rfl rfl ?_;intro b31
   refine⟨aN,?_⟩
   refine aS 12 rfl an rfl ?_
   refine bR (enc:=SL.one vi) rfl S23 rfl rfl bh bh [((7+files+a+i:Nat):Int)] rfl (by rfl) rfl ie ie (by exact⟨by simp only[maxLen,List.length_append,List.length_nil,List.length_cons,List.length_drop,List.length_take,List.length_map];omega,by(simp only[List.length_append,List.length_nil,List.length_cons,List.length_drop,List.length_take,List.length_map];omega)⟩) rfl rfl ?_;intro v32 hv32
   refine⟨aN,?_⟩
   refine ae 13 rfl an aN rfl rfl rfl (Rd.assign rfl rfl) ?_
   refine WD.heap (λw h=>h.dH (α:=Int) (e:=3) (size:=1) (enc:=SL.one vi)) ?_
   refine WD.done an ?_
   refine aA<|aa<|aB<|ab rfl (Rd.add rfl rfl rfl ao) ?_
   exact af rfl<|aG<|bC.mk (i+1) v32 ⟨by omega,hv32⟩ ao cC (λw h=>by rw[List.range_succ,List.map_append,←List.append_assoc];exact dj h)
  ·
   obtain rfl:i=k:=by omega
   refine WC.exit<|au.exit<|bC.exit<|aH.exit<|aA<|aa<|aB<|ab rfl (Rd.add rfl rfl rfl ao) ?_
   exact af rfl<|aG<|bC.mk (j+1) u ⟨by omega,i2⟩ ao cC (λw h=>by rw[hnx];exact dj h)
 ·
  obtain rfl:j=xs.length:=by omega
  rw[List.take_length]
  refine WC.heap (λw h=>Sat.eE (e:=3) (size:=1) (enc:=SL.one vi) (xs:=eI (bT (7+files) xs)) (v:=v) bh h) ?_
  refine WC.exit<|au.exit<|bC.exit<|aH.exit<|aa<|aD<|af rfl<|ar rfl<|aw ?_
  refine WC.ret (Ret.one Tryz.results67 rfl ?_)
  exact⟨_,_,hk v,bN⟩
end
end Go.Proofs.YtebpkhlifcffnaaGreatDoor.Fs
namespace Go.Proofs.YtebpkhlifcffnaaGreatDoor.Fs
open Go Go.SL
theorem IA(e:Tx):e.take (min e.length 512)=e.take 512:=by
 rcases Nat.le_total e.length 512 with h|h
 ·rw[Nat.min_eq_left h,List.take_length,List.take_of_length_le h]
 ·rw[Nat.min_eq_right h]
theorem HM(e:Tx):e.drop (min e.length 512)=e.drop 512:=by
 rcases Nat.le_total e.length 512 with h|h
 ·rw[Nat.min_eq_left h,List.drop_length,List.drop_eq_nil_of_le h]
 ·rw[Nat.min_eq_right h]
theorem G6{l:List Nat}{j:Nat}(h:j<l.length)(e:Tx):bQ (l.drop j) e=((l[j]! :Int),e.take 512)::bQ (l.drop (j+1)) (e.drop 512):=by
 rw[List.drop_eq_getElem_cons h,bQ,getElem!_pos l j h]
section
variable{R:List RO}{O:List Own}{POST:Value->List RO->List Own->Prop}{s d l mb un files k:Nat}{sp:Nat->Bool}{m:aO Tx MI}{V:DV}{D:DSt}
set_option maxRecDepth 20000 in
set_option maxHeartbeats 2000000 in
theorem Iy{L:List Nat}{lv:Value}{data:Tx}{cs:List Value}(hl:SlE (SL.one vi) lv (eI L)∈R)(hcs:cs[0]? =some (dp d))(dk:Dk D k)(hm:k+L.length<=4294967280)(hv:VOk V D)(hkeep:SlE (SL.one vi) V.kv D.keep∈R)(hdl:data.length<=20000000)
 (hk: ∀V',VOk V' (lS D L data).1->V'.kv=V.kv->POST (.int .i64 ((lS D L data).2:Nat)) R (dO d V' (lS D L data).1 (az s 77 cs::O))):Fun Tryz.prog 125 #[dp s,lv,vs data] R (dO d V D (az s 77 cs::O)) POST:=by
 refine bp<|Fun.len hl λhxl=>?_
 rw[eA] at hxl
 obtain⟨dk1,_,hkp1⟩:=vH (x:=bQ L data) dk
 rw[kO] at dk1
 refine aC (l:=[_,_,_]) Tryz.func125 rfl Tryz.ntmps125 rfl (L0:=[(0,_),(1,_),(2,_)]) rfl ?_
 refine aD<|ar rfl<|aw<|bd<|af rfl<|ab rfl (bu (enc:=SL.one vi) (xs:=eI L) rfl rfl Tryz.underlying23 hl) ?_
 refine aU 12 (u:=.int .i64 (L.length:Int)) rfl (by rw[eA]) ?_
 refine af rfl<|aw<|WC.block ?_
 refine WC.pick [13,2,0,1,11,12] eS ?_
 refine KE 2 (λ(j:Nat) (t:DSt) (U:DV) (e:Tx)=>[(13,.int .i64 (j:Int)),(2,vs e)]) (λ(j:Nat) (t:DSt) (U:DV) (e:Tx)=>dO d U t (az s 77 cs::O)) (λ(j:Nat) (t:DSt) (U:DV) (e:Tx)=>j<=L.length/\Dk t (k+j)/\VOk U t/\U.kv=V.kv/\t.keep=D.keep/\e.length<=data.length/\eY D (bQ L data)=eY t (bQ (L.drop j) e)) (λ(j:Nat) (t:DSt) (U:DV) (e:Tx)=>L.length-j) (0) (D) (V) (data) iw ?hinv1 cC (λ_ h=>h) ?_
 case hinv1=>
  exact⟨Nat.zero_le _,dk,hv,rfl,rfl,Nat.le_refl _,rfl⟩
 intro j t U e
 rintro⟨j1,dkt,hu,hkv,hkp,hel,hrun⟩
 refine aD<|ab rfl (Rd.lss rfl rfl rfl)<|aw ?_
 refine aF<|aE rfl (λhc1=>?_) (λhc1=>?_)
 ·
  have hat:=hrun
  rw[G6 ao,eY] at hat
  dsimp only at hat
  refine ay<|aa<|aF<|WC.block ?_
  refine aD<|ab rfl (c9 (enc:=SL.one vi) (xs:=eI L) (k:=j) rfl S23 rfl rfl rfl hl (by rw[eA];omega)) ?_
  refine ab rfl (Rd.get (g:=vi) (xs:=eI L) (k:=j) (a:=((L[j]! :Nat):Int)) rfl C3 rfl hl (tT ao)) ?_
  refine ar rfl<|a7<|af rfl<|ab rfl (cg (ts:=#[]) (ty:=0) rfl rfl Tryz.underlying9) ?_
  refine ab rfl (jn rfl rfl rfl)<|aU 19 (u:=.int .i64 ((min e.length 512:Nat):Int)) rfl (by split<;>(congr 1;omega)) ?_
  refine ar rfl<|aw<|aF<|aF<|WC.tail 8 mixed an ?_
  refine bn rfl (al rfl rfl)<|bn rfl (aL rfl rfl)<|bn rfl (by exact ak rfl sn rfl rfl) ?_
  refine bn rfl (ax (off:=0) (u:=dp d) rfl C25 rfl aK hcs) ?_
  refine bn rfl (al rfl rfl)<|bn rfl (al rfl rfl)<|bn rfl (al rfl rfl)<|bn rfl (gi (hi:=min e.length 512) rfl Tryz.underlying9 rfl rfl rfl ao) ?_
  refine WS.say 27 (u:=vs (e.take 512)) rfl (by rw[IA]) ?_
  refine dm<|aq rfl<|aj rfl rfl aZ an rfl rfl rfl ?_
  refine iW dkt.ok ao hu (by rw[hkv,hkp];exact hkeep) ?_;intro U1 hu1 hku1
  refine ar rfl<|a7<|af rfl<|ab rfl (Rd.neq rfl rfl rfl)<|aw<|aE rfl (λhc2=>?_) (λhc2=>?_)
  ·
   rw[if_pos ao] at hat
   have hfin:lS D L data=(eL t (L[j]! :Int) (e.take 512),eM t (L[j]! :Int) (e.take 512)):=by
    unfold lS
    rw[if_neg (by rintro rfl;exact absurd hc1 (by simp))]
    unfold cF cJ;rw[hat,if_pos (by show eM t _ _≠0;omega)]
   rw[hfin] at hk
   refine aD<|af rfl<|ar rfl<|aw ?_
   refine WC.ret (au.fJ (aH.fJ (au.fJ (kA.fJ (aH.fJ (au.fJ (Ret.one Tryz.results125 rfl ?_)))))))
   exact⟨_,_,hk U1 hu1 (hku1.trans hkv),bN⟩
  ·
   rw[if_neg ao] at hat
   refine ay<|aa<|aB<|af rfl<|af rfl<|ab rfl (gh (lo:=min e.length 512) rfl Tryz.underlying9 rfl rfl rfl ao) ?_
   refine aU 34 (u:=vs (e.drop 512)) rfl (by rw[HM]) ?_
   refine ar rfl<|aG<|aA<|aa<|aB<|ab rfl (Rd.add rfl rfl rfl ao) ?_
   exact af rfl<|aG<|kA.mk (j+1) (eL t (L[j]! :Int) (e.take 512)) U1 (e.drop 512) ⟨by omega,(dkt.put _ _).mono ao,hu1,hku1.trans hkv,(hZ _ _ _).trans hkp,by rw[List.length_drop];omega,hat⟩ ao cC bN
 ·
  obtain rfl:j=L.length:=by omega
  have hr0:eY D (bQ L data)=(t,0):=by rw[hrun,List.drop_length];rfl
  refine WC.exit<|au.exit<|kA.exit<|aH.exit<|aa<|bd<|af rfl<|ab rfl (bu (enc:=SL.one vi) (xs:=eI L) rfl rfl Tryz.underlying23 hl) ?_
  refine aU 37 (u:=.int .i64 (L.length:Int)) rfl (by rw[eA]) ?_
  refine ab rfl (Rd.eql rfl rfl rfl)<|aw<|aE rfl (λhc3=>?_) (λhc3=>?_)
  ·
   obtain rfl:L=[]:=List.length_eq_zero_iff.1 ao
   have e1:(D,0)=(t,0):=hr0
   have hfin:lS D [] data=(t,0):=by rw[←e1];rfl
   rw[hfin] at hk
   refine aD<|ar rfl<|aw ?_
   refine WC.ret (au.fJ (Ret.one Tryz.results125 rfl ?_))
   exact⟨_,_,hk U hu hkv,bN⟩
  ·
   have hfin:lS D L data=(ek t,eN t):=by
    unfold lS
    rw[if_neg (by rintro rfl;exact hc3 rfl)]
    unfold cF cJ;rw[hr0,if_neg (λh=>h rfl)]
   rw[hfin] at hk
   refine ay<|aa<|aD<|af rfl<|ab rfl (aL rfl rfl)<|ab rfl (by exact ak rfl sn rfl rfl) ?_
   refine ab rfl (ax (off:=0) (u:=dp d) rfl C25 rfl aK hcs) ?_
   refine aq rfl<|aj rfl rfl aZ an rfl rfl rfl ?_
   refine lK dkt.ok ao hu (by rw[hkv,hkp];exact hkeep) ?_;intro U1 hu1 hku1
   refine ar rfl<|aw<|WC.ret (Ret.one Tryz.results125 rfl ?_)
   exact⟨_,_,hk U1 hu1 (hku1.trans hkv),bN⟩
set_option maxRecDepth 20000 in
theorem tK(ho:D.off=false)(hk:POST (.int .i64 0) R (stO s d l mb un files sp false m V D O)):Fun Tryz.prog 122 #[dp s] R (stO s d l mb un files sp false m V D O) POST:=by
 refine bp<|aC (l:=[_]) Tryz.func122 rfl Tryz.ntmps122 rfl (L0:=[(0,_)]) rfl ?_
 refine aD<|ar rfl<|aw ?_
 refine aF<|WC.block ?_
 refine aD<|af rfl<|ab rfl (j3 rfl Tryz.underlying30 rfl rfl) ?_
 refine aU 5 (u:=.bool (decide False)) rfl (by simp) ?_
 refine ar rfl<|aw<|aE rfl (λhc1=>?_) (λhc1=>?_)
 ·
  exact hc1.elim
 ·
  refine aD<|af rfl<|ab rfl (aL rfl rfl)<|ab rfl (by exact ak rfl J2 rfl rfl) ?_
  refine ab rfl (ax (off:=6) (u:=.bool (decide False)) rfl C4 rfl aK rfl) ?_
  refine af rfl<|WL.case 11 rfl (λhg11=>?_) (λhg11=>?_)
  ·
   exact hg11.elim
  ·
   refine aT rfl (al rfl rfl)<|aT rfl (aL rfl rfl)<|aT rfl (by exact ak rfl sn rfl rfl) ?_
   refine aT rfl (ax (off:=0) (u:=dp d) rfl C25 rfl aK rfl) ?_
   refine WL.c4 rfl rfl rfl rfl<|aj rfl rfl aZ an rfl rfl rfl ?_
   refine Aa ?_
   refine aU 16 (u:=.bool false) rfl (by rw[ho]) ?_
   refine ab rfl (aQ rfl rfl rfl)<|ar rfl<|aw<|WC.cond rfl (λhc2=>?_) (λhc2=>?_)
   ·
    cases hc2
   ·
    refine ay<|aA<|aa<|aD<|ar rfl<|aw ?_
    refine WC.ret (Ret.one Tryz.results122 rfl ?_)
    exact⟨_,_,hk,bN⟩
set_option maxRecDepth 20000 in
theorem rj{name:Tx}{q:MI}(hmg:m.get name=some q)(hg:oU name)(ho:D.off=false)(hall:allM m∈R)
 (hk:POST (.tuple #[miV q,.int .i64 0]) (SlE cW q.2.2.1 q.2.2.2::R) (stO s d l mb un files sp false m V D O)):
 Fun Tryz.prog 61 #[dp s,vs name] R (stO s d l mb un files sp false m V D O) POST:=by
 refine bp<|Fun.heap (R':=SlE cW q.2.2.1 q.2.2.2::R) (λw h=>h.derive λw hw=>hw _ hall name q hmg) ?_
 refine Fun.sJ (xs:=q.2.2.2) (enc:=cW) (v:=q.2.2.1) List.mem_cons_self λhqv=>?_
 refine aC (l:=[_,_]) Tryz.func61 rfl Tryz.ntmps61 rfl (L0:=[(0,_),(1,_)]) rfl ?_
 refine aD<|aq rfl<|OpW.alloc rfl lA rfl ba rfl rfl ?_;intro b4
 refine ar rfl<|aw<|bd<|af rfl<|aq rfl<|aj rfl rfl aZ an rfl rfl rfl ?_
 refine Fun.heap (R':=SlE cW q.2.2.1 q.2.2.2::R) (O':=stO s d l mb un files sp false m V D (az b4 126 (bV 0 0 (.slice none 0 0))::O)) bN ?_
 refine tK ho ?_
 refine ar rfl<|a7<|af rfl<|ab rfl (Rd.neq rfl rfl rfl)<|aw<|aE rfl (λhc1=>?_) (λhc1=>?_)
 ·
  exact absurd hc1 ct
 ·
  refine ay<|aa<|bd<|af rfl ?_
  refine aq rfl<|aj rfl rfl aZ an rfl rfl rfl ?_
  refine rE hg ?_
  refine ab rfl (by exact Rd.not rfl rfl) ?_
  refine aU 17 (u:=.bool (decide False)) rfl rfl ?_
  refine aw<|aE rfl (λhc2=>?_) (λhc2=>?_)
  ·
   exact hc2.elim
  ·
   refine ay<|aa<|aD<|af rfl<|ab rfl (aL rfl rfl)<|ab rfl (by exact ak rfl ua rfl rfl) ?_
   refine ab rfl (ax (off:=4) (u:=.map (some mb)) rfl C72 rfl aK rfl) ?_
   refine af rfl<|ab rfl (pH (kenc:=vs) (venc:=miV) (m:=m) M72 K9 rfl rfl rfl aK rfl) ?_
   refine aU 25 (u:=.tuple #[miV q,.bool (decide True)]) rfl (by rw[hmg];rfl) ?_
   refine af rfl<|bH rfl<|bH rfl<|aq rfl<|OpW.alloc rfl lA rfl ba rfl rfl ?_;intro b7
   refine aq rfl<|aM (h1:=by simp only[List.all_cons,List.all_nil,hqv.one];rfl) rfl iM rfl rfl ba bh rfl rfl ba rfl ?_
   refine ar rfl<|aw<|bd<|af rfl<|ab rfl (by exact iS rfl rfl) ?_
   refine aw<|aE rfl (λhc3=>?_) (λhc3=>?_)
   ·
    exact(hc3 trivial).elim
   ·
    refine ay<|aa<|aD<|ab rfl (by exact bj rfl iM rfl aK ba rfl) ?_
    refine aq rfl<|aM (h1:=by simp only[List.all_cons,List.all_nil,hqv.one];rfl) rfl iM rfl rfl ba bh rfl rfl ba rfl ?_
    refine ar rfl<|aw<|WC.ret (dX (b:=b4) Tryz.results61 rfl rfl aK iM rfl ?_)
    exact⟨_,_,hk,bN⟩
set_option maxRecDepth 20000 in
theorem wR{name:Tx}(hmg:m.get name=none)(hg:oU name)(ho:D.off=false)
 (hk:POST (.tuple #[Gy 0 0 (.slice none 0 0),.int .i64 9]) R (stO s d l mb un files sp false m V D O)):
 Fun Tryz.prog 61 #[dp s,vs name] R (stO s d l mb un files sp false m V D O) POST:=by
 refine bp<|aC (l:=[_,_]) Tryz.func61 rfl Tryz.ntmps61 rfl (L0:=[(0,_),(1,_)]) rfl ?_
 refine aD<|aq rfl<|OpW.alloc rfl lA rfl ba rfl rfl ?_;intro b4
 refine ar rfl<|aw<|bd<|af rfl<|aq rfl<|aj rfl rfl aZ an rfl rfl rfl ?_
 refine Fun.heap (R':=R) (O':=stO s d l mb un files sp false m V D (az b4 126 (bV 0 0 (.slice none 0 0))::O)) bN ?_
 refine tK ho ?_
 refine ar rfl<|a7<|af rfl<|ab rfl (Rd.neq rfl rfl rfl)<|aw<|aE rfl (λhc1=>?_) (λhc1=>?_)
 ·
  exact absurd hc1 ct
 ·
  refine ay<|aa<|bd<|af rfl ?_
  refine aq rfl<|aj rfl rfl aZ an rfl rfl rfl ?_
  refine rE hg ?_
  refine ab rfl (by exact Rd.not rfl rfl) ?_
  refine aU 17 (u:=.bool (decide False)) rfl rfl ?_
  refine aw<|aE rfl (λhc2=>?_) (λhc2=>?_)
  ·
   exact hc2.elim
  ·
   refine ay<|aa<|aD<|af rfl<|ab rfl (aL rfl rfl)<|ab rfl (by exact ak rfl ua rfl rfl) ?_
   refine ab rfl (ax (off:=4) (u:=.map (some mb)) rfl C72 rfl aK rfl) ?_
   refine af rfl<|ab rfl (pH (kenc:=vs) (venc:=miV) (m:=m) M72 K9 rfl rfl rfl aK rfl) ?_
   refine aU 25 (u:=.tuple #[Gy 0 0 (.slice none 0 0),.bool (decide False)]) rfl (by rw[hmg];rfl) ?_
   refine af rfl<|bH rfl<|bH rfl<|aq rfl<|OpW.alloc rfl lA rfl ba rfl rfl ?_;intro b7
   refine aq rfl<|aM rfl iM rfl rfl ba bh rfl rfl ba rfl ?_
   refine ar rfl<|aw<|bd<|af rfl<|ab rfl (by exact iS rfl rfl) ?_
   refine aw<|aE rfl (λhc3=>?_) (λhc3=>?_)
   ·
    refine aD<|ab rfl (bO (ps:=[]) rfl En lA rfl aZ fy (by apply NFo.mk;repeat(first|exact NF.nil|apply NF.cons))) ?_
    refine aq rfl<|aM rfl iM rfl rfl ba bh rfl rfl ba rfl ?_
    refine ar rfl<|aw<|WC.ret (au.fJ (dX (b:=b4) Tryz.results61 rfl rfl aK iM rfl ?_))
    exact⟨_,_,hk,bN⟩
   ·
    exact(hc3 id).elim
end
end Go.Proofs.YtebpkhlifcffnaaGreatDoor.Fs
namespace Go.SL
open Go Go.RowKit Go.MapKept Go.ChangeMaps
section
variable{κ β:Type}{kenc:κ->Value}{venc:β->Value}
variable{P:Program}{n:Sz}{o:Oper}{L:Env}{R:List RO}{O O':List Own}{K:Env->List RO->List Own->Prop}{t kt et:TypeId}{z:Value}{x y:Operand}{m:aO κ β}{b d it:Nat}{seen seen1:List Nat}
theorem BM(T:ku P t kt et z)(ho:o.op= .range t x)(hx:ev L x=some (.map (some b)))(hp:fl kenc venc b m∈O)(hd:o.dst=some d)(hn:Nat.blt d n.n=true)
 (k: ∀it,K ((d,.pointer (some ⟨it,0,none⟩))::L) R (fe it b m.clock []::O)):OpW P n o L R O K:=by
 intro a w hf hs Q
 have h:iu kenc venc b m w:=hs.see hp
 unfold Oper.wp
 have hr:(execOp a.eval o).run P w= .ok (.value (.pointer (some ⟨w.heap.size,0,none⟩))) (w.alloc (.mapIter (some b) m.clock #[] m.clock)):=by
  simp only[execOp,ho,Sem.run_bind,hf.ev hx,run_range_map w t kt et b _ _ T.und h,Result.andThen_ok,Sem.run_pure]
 rw[hr,Oper.upon_value,hd]
 exact⟨_,_,_,k _,hf.put hn _,hs.alloc _ _ rfl λw' h _=>h⟩
theorem DC(ho:o.op= .next x false)(hx:ev L x=some (.pointer (some ⟨it,0,none⟩)))(hp:fl kenc venc b m∈O)(hT:Take (fe it b m.clock seen) O O')(hd:o.dst=some d)(hn:Nat.blt d n.n=true)
 (k: ∀r,JX m seen r->K ((d,DM kenc venc r)::L) R (fe it b m.clock (JS seen r)::O')):OpW P n o L R O K:=by
 intro a w hf hs Q
 have h:iu kenc venc b m w:=hs.see hp
 have hs':=hs.perm hT.perm
 have hi:w.heap[it]? =some (.mapIter (some b) m.clock seen.toArray m.clock):=hs'.see List.mem_cons_self
 unfold Oper.wp
 rcases run_next_at (P:=P) w o.type it b m.clock m.clock seen.toArray _ _ hi h (by
  intro e he
  simp only[List.mem_map] at he
  obtain⟨q,hq,rfl⟩:=he
  exact m.lt q hq) (Nat.le_refl _) with⟨h0,hr⟩|⟨e,he,w1,hw1,hr⟩
 ·have hr':(execOp a.eval o).run P w= .ok (.value (.tuple #[.bool false])) w:=by
   simp only[execOp,ho,Sem.run_bind,hf.ev hx,hr,Result.andThen_ok,Sem.run_pure]
  rw[hr',Oper.upon_value,hd]
  refine⟨_,_,_,k none ?_,hf.put hn _,hs'⟩
  intro q hq
  have h1:leftOf (m.l.map (ent kenc venc)).toArray seen.toArray=#[]:=Array.eq_empty_of_size_eq_zero h0
  unfold leftOf at h1
  rw[Array.filter_eq_empty_iff] at h1
  have:=h1 (ent kenc venc q) (by simpa using⟨q.1,q.2.1,q.2.2,hq,rfl⟩)
  simpa [ent] using this
 ·have hr':(execOp a.eval o).run P w= .ok (.value (.tuple #[.bool true,e.key,e.val])) (setBlock w1 it (.mapIter (some b) m.clock (seen.toArray.push e.born) m.clock)):=by
   simp only[execOp,ho,Sem.run_bind,hf.ev hx,hr,Result.andThen_ok,Sem.run_pure]
  rw[hr',Oper.upon_value,hd]
  simp only[leftOf,Array.toList_filter,List.mem_filter,List.mem_map] at he
  obtain⟨⟨q,hq,rfl⟩,hns⟩:=he
  have hs1:Sat R (fe it b m.clock seen::O') w1:=by
   rcases hw1 with rfl|rfl
   ·exact hs'
   ·exact hs'.drew _
  have hi1:w1.heap[it]? =some (.mapIter (some b) m.clock seen.toArray m.clock):=hs1.see List.mem_cons_self
  have hlt:it<w1.heap.size:=(Array.getElem?_eq_some_iff.1 hi1).1
  refine⟨_,_,_,k (some q) ⟨hq,by simpa [ent] using hns⟩,hf.put hn _,?_⟩
  refine hs1.update (fe it b m.clock (seen++[q.2.2])) ⟨rfl,rfl,rfl,by simp[setBlock],λj hj hn=>?_⟩ (λj hj=>.inl hj) (λj hj=>?_) (by simp[fe]) (λw'' ha _=>?_)
  ·have:j≠it:=λe=>hn (by simp[fe,e])
   exact(heap_set hi1).2 j this
  ·simp only[fe,List.mem_singleton] at hj;subst hj;simpa [setBlock] using hlt
  ·show w''.heap[it]? =_
   rw[ha.2.2.2.2 it (by simpa [setBlock] using hlt) (λh=>h (by simp[fe]))]
   refine(heap_set hi1).1.trans ?_
   simp[ent]
theorem DD{q:κ×β×Nat}(ho:o.op= .entry x)(hx:ev L x=some (.pointer (some ⟨it,0,none⟩)))(hp:fl kenc venc b m∈O)(hi:fe it b m.clock seen1∈O)(hq:q∈m.l)(hs:seen1=seen++[q.2.2]):Rd P o L R O (.tuple #[kenc q.1,venc q.2.1]):=λρ w hρ hR hO=>by
 have h:w.heap[b]? =_:=hO _ hp
 have h2:w.heap[it]? =_:=hO _ hi
 subst hs
 have h3:w.heap[it]? =some (.mapIter (some b) m.clock (seen.toArray.push (ent kenc venc q).born) m.clock):=h2.trans (by simp[ent])
 have:=run_entry_at (P:=P) w it b m.clock seen.toArray _ _ (ent kenc venc q) h3 h (by simpa using⟨q.1,q.2.1,q.2.2,hq,rfl⟩) (by
  show((m.l.map (ent kenc venc)).map (·.born)).Nodup
  rw[tq];exact m.born)
 simp only[execOp,ho,Sem.run_bind,hρ _ _ hx,this,Result.andThen_ok,Sem.run_pure]
 rfl
end
end Go.SL

