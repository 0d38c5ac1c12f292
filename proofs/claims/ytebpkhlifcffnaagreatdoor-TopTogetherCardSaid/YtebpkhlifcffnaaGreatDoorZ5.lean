/-
  Part 5 of the texts that the law TopTogether is proved with: Es19, Es20, Es21, Es22, Es23, Es24, Es25, Es26, Es27, Es28, Es29, Ex3, Es30, Ek1, Sh1, Sh2, Sh3, Sh4, Sh5, Ek2, Ek3. No premise.
-/
import Derived.Test.YtebpkhlifcffnaaGreatDoorZ4
import Derived.LoopNIn
import Derived.Lib.Bytealg
import Derived.Lib.IndexLaws
namespace Go.Ex
open Go Go.SL
section
variable{ρ:Rho}{X:Fx}{n:Sz}{o:Oper}{L:Env}{R:List RO}{O F:List Own}{e:Tr}{r:AV}{B:Bs}{OB:List Own}{h h':Hp}
theorem Qf{b:Builtin}{azs:List Operand}{ts:List TypeId}{f:Tr->Bs->Hp->Option AV}(hf:xoB X b azs ts= .r f)(hE:ER ρ e L)(H:HR ρ B OB h O)(h:f e B h=some r)(ho:o.op= .call {callee:=.builtin b,args:=azs.toArray,argTypes:=ts.toArray}): ∃v,VR ρ r v/\Rd X.P o L R O v:=by
 unfold xoB at hf
 split at hf<;>first|(cases hf;done)|skip
 unfold tD at hf
 split at hf<;>first|(cases hf;done)|skip
 cases hf
 exact Lw hE H h ho
theorem Oj{f:Tr->Bs->Hp->Option AV}(hf:xo X o.op= .r f)(hE:ER ρ e L)(H:HR ρ B OB h O)(h:f e B h=some r): ∃v,VR ρ r v/\Rd X.P o L R O v:=by
 cases ho:o.op<;>rw[ho] at hf<;>try (cases hf;done)
 case lookup t x y c=>cases hf;exact GW (KOk.of _) hE H h ho
 case entry x=>cases hf;exact OT hE H h ho
 case slice t x lo hi mx=>cases mx<;>cases hf
 case typeAssert x u t c=>cases c<;>cases hf
 case makeFunc fn fs cs=>cases fn<;>cases hf
 case makeMap t rs=>cases rs<;>cases hf
 case convert s d x=>
  have hf:xoV X.P s d x= .r f:=hf
  unfold xoV at hf
  split at hf<;>first|(cases hf;done)|skip
  rename_i h1 h2;cases hf;exact K7 hE H h h1 h2 ho
 case call c=>
  obtain⟨callee,args,argTypes⟩:=c
  cases callee<;>first|(cases hf;done)|skip
  exact Qf hf hE H h (by simpa using ho)
theorem MS{G:Nat->Option (List AV)}{t:TypeId}{x:VX}(hf:xo X o.op= .l t x)(hG:GOk G R)(hE:ER ρ e L)(H:HR ρ B OB h O)(hm:(bnd (gv e x) (nk X.P G B h t))=some r): ∃v,VR ρ r v/\Rd X.P o L R O v:=by
 cases ho:o.op<;>rw[ho] at hf<;>try (cases hf;done)
 case load t x=>cases hf;exact Rx hG hE H hm ho
 case slice t x lo hi mx=>cases mx<;>cases hf
 case typeAssert x u t c=>cases c<;>cases hf
 case makeFunc fn fs cs=>cases fn<;>cases hf
 case makeMap t rs=>cases rs<;>cases hf
 case convert s d y=>
  have hf:xoV X.P s d y= .l t x:=hf
  unfold xoV at hf
  split at hf<;>cases hf
 case call c=>
  obtain⟨callee,args,argTypes⟩:=c
  cases callee<;>first|(cases hf;done)|skip
  rename_i b
  have hf:xoB X b args.toList argTypes.toList= .l t x:=hf
  unfold xoB at hf
  split at hf<;>first|(cases hf;done)|skip
  unfold tD at hf
  split at hf<;>cases hf
theorem kz{k:Nat}(h:oP k o=true)(ds:List Deferred):DOk o.dst ⟨k,ds⟩:=λd hd=>by
 obtain⟨h1,_⟩:=bZ h
 unfold dOk at h1
 rw[hd] at h1
 exact h1
theorem Qn{b:Builtin}{azs:List Operand}{ts:List TypeId}{f:Tr->Bs->Hp->Option (AV×Hp)}{q:AV×Hp}(hf:xoB X b azs ts= .w f)(hE:ER ρ e L)(H:HR ρ B OB h O)(hm:f e B h=some q)(hN:Nw ρ h.nx q.2.nx)(ho:o.op= .call {callee:=.builtin b,args:=azs.toArray,argTypes:=ts.toArray})(hd:DOk o.dst n):
 OpW X.P n o L R (O++F) (eG ρ h.nx q.2.nx (eH e o.dst q.1) B OB q.2 R F)/\h.nx<=q.2.nx:=by
 unfold xoB at hf
 split at hf<;>first|(cases hf;done)|skip
 ·unfold tD at hf
  split at hf<;>cases hf
 ·cases hf
  obtain⟨h1,h2⟩:=FZ (F:=F) (R:=R) (P:=X.P) hE H hm hN ho hd
  exact⟨h1,by omega⟩
 ·cases hf
  obtain⟨h1,h2⟩:=M7 (F:=F) (R:=R) (P:=X.P) hE H hm ho hd
  exact⟨h1,by omega⟩
 ·cases hf
  obtain⟨h1,h2⟩:=IJ (F:=F) (R:=R) (P:=X.P) hE H hm ho hd
  exact⟨h1,by omega⟩
 ·cases hf
  obtain⟨h1,h2⟩:=P8 (F:=F) (R:=R) (P:=X.P) (KOk.of _) hE H hm ho hd
  exact⟨h1,by omega⟩
theorem SE{k:Nat}{ds:List Deferred}{f:Tr->Bs->Hp->Option (AV×Hp)}{q:AV×Hp}(hf:xo X o.op= .w f)(hE:ER ρ e L)(H:HR ρ B OB h O)(hm:f e B h=some q)(hN:Nw ρ h.nx q.2.nx)(hok:oP k o=true):
 OpW X.P ⟨k,ds⟩ o L R (O++F) (eG ρ h.nx q.2.nx (eH e o.dst q.1) B OB q.2 R F)/\h.nx<=q.2.nx:=by
 have hd:=kz hok ds
 obtain⟨_,hs⟩:=bZ hok
 unfold Jw at hs
 have none_of:o.dst.isNone=true->o.dst=none:=λh=>by simpa using h
 have some_of:o.dst.isSome=true-> ∃d,o.dst=some d:=λh=>Option.isSome_iff_exists.1 h
 cases ho:o.op<;>rw[ho] at hf hs<;>try (cases hf;done)
 case store t x y=>
  cases hf
  obtain⟨h1,h2⟩:=HE (n:=⟨k,ds⟩) (F:=F) (R:=R) (P:=X.P) hE H hm ho (none_of hs)
  exact⟨h1,by omega⟩
 case alloc t=>
  cases hf
  obtain⟨d,hdd⟩:=some_of hs
  have h1:=Hm (n:=⟨k,ds⟩) (F:=F) (R:=R) (P:=X.P) hE H hm hN ho hdd (hd d hdd)
  refine⟨h1,?_⟩
  obtain⟨z,_,hm⟩:=ah hm
  cases hm
  rw[add_eq];exact Nat.le_succ _
 case box t x=>
  cases hf
  obtain⟨d,hdd⟩:=some_of hs
  have h1:=Pp (n:=⟨k,ds⟩) (F:=F) (R:=R) (P:=X.P) hE H hm hN ho hdd (hd d hdd)
  refine⟨h1,?_⟩
  obtain⟨z,_,hm⟩:=ah hm
  cases hm
  rw[add_eq];exact Nat.le_succ _
 case buildSlice t m ps=>
  cases hf
  obtain⟨h1,h2⟩:=Pm (n:=⟨k,ds⟩) (F:=F) (R:=R) (P:=X.P) hE H hm hN (by simpa using ho) hd
  exact⟨h1,by omega⟩
 case makeSlice t x y=>
  cases hf
  obtain⟨d,hdd⟩:=some_of hs
  obtain⟨m,hx,hm⟩:=ah hm
  obtain⟨c,hy,hm⟩:=ah hm
  obtain⟨h1,h2⟩:=OD (n:=⟨k,ds⟩) (F:=F) (R:=R) (P:=X.P) hE H hx hy hm hN ho hdd (hd d hdd)
  exact⟨h1,by omega⟩
 case makeMap t rs=>
  cases rs<;>first|(cases hf;done)|skip
  cases hf
  obtain⟨h1,h2⟩:=OR (n:=⟨k,ds⟩) (F:=F) (R:=R) (P:=X.P) hE H hm hN ho hd
  exact⟨h1,by omega⟩
 case mapUpdate t x y u=>
  cases hf
  obtain⟨h1,h2⟩:=Kd (n:=⟨k,ds⟩) (F:=F) (R:=R) (P:=X.P) (KOk.of _) hE H hm (.inl ho) (none_of hs)
  exact⟨h1,by omega⟩
 case insert t x y u=>
  cases hf
  obtain⟨h1,h2⟩:=Kd (n:=⟨k,ds⟩) (F:=F) (R:=R) (P:=X.P) (KOk.of _) hE H hm (.inr ho) (none_of hs)
  exact⟨h1,by omega⟩
 case range t x=>
  cases hf
  obtain⟨h1,h2⟩:=On (n:=⟨k,ds⟩) (F:=F) (R:=R) (P:=X.P) hE H hm hN ho hd
  exact⟨h1,by omega⟩
 case next x isS=>
  cases hf
  cases isS with
  |true=>
   obtain⟨h1,h2⟩:=nw (n:=⟨k,ds⟩) (F:=F) (R:=R) (P:=X.P) hE H hm ho hd
   exact⟨h1,by omega⟩
  |false=>
   obtain⟨h1,h2⟩:=Jk (n:=⟨k,ds⟩) (F:=F) (R:=R) (P:=X.P) hE H hm ho hd
   exact⟨h1,by omega⟩
 case slice t x lo hi mx=>cases mx<;>cases hf
 case typeAssert x u t c=>cases c<;>cases hf
 case makeFunc fn fs cs=>cases fn<;>cases hf
 case convert s d x=>
  have hf:xoV X.P s d x= .w f:=hf
  unfold xoV at hf
  split at hf<;>first|(cases hf;done)|skip
  rename_i h1 h2;cases hf
  obtain⟨h1,h2⟩:=Ml (n:=⟨k,ds⟩) (F:=F) (R:=R) (P:=X.P) hE H hm h1 h2 hN ho hd
  exact⟨h1,by omega⟩
 case call c=>
  obtain⟨callee,args,argTypes⟩:=c
  cases callee<;>first|(cases hf;done)|skip
  exact Qn hf hE H hm hN (by simpa using ho) hd
end
end Go.Ex
namespace Go.Ex
open Go Go.SL
section
variable{X:Fx}{P:Program}{B:Bs}{h h':Hp}
theorem eh{i:Nat}{q:Ch×Hp}(hg:h.take B i=some q):q.2.nx=h.nx:=by
 rcases lP hg with hg|⟨_,hg⟩
 ·obtain⟨q,hq,hg⟩:=ah hg
  cases hg;rfl
 ·obtain⟨q,hq,hg⟩:=ah hg
  cases hg;rfl
theorem od{x:Option Hp}{q:AV×Hp}(h:lH x=some q): ∃h',x=some h'/\q=(.tu [],h'):=by
 unfold lH at h
 split at h
 ·cases h;exact⟨_,rfl,rfl⟩
 ·cases h
theorem Lh{ds:List AV}{a:AV}(h1:LP B h ds a=some h'):h'.nx=h.nx:=by
 unfold LP at h1
 split at h1
 ·obtain⟨q,hq,h2⟩:=ah h1
  rw[←eh hq]
  unfold oY at h2
  split at h2
  ·obtain⟨_,h2⟩:=aI h2;cases h2;rfl
  ·cases h2
 ·obtain⟨q,hq,h2⟩:=ah h1
  rw[←eh hq]
  unfold NM at h2
  split at h2
  ·obtain⟨_,h2⟩:=aI h2;cases h2;rfl
  ·obtain⟨_,h2⟩:=aI h2;cases h2;rfl
  ·cases h2
 ·cases h1
theorem kS(h:Hp)(c:Ch):(h.add c).nx=h.nx+1:=by rw[add_eq]
theorem ON{I:SlI}{a:AV}{q:List AV×Hp}(hm:hdA B I h a=some q):q.2.nx=h.nx:=by
 unfold hdA at hm
 split at hm
 ·cases hm;rfl
 ·obtain⟨_,hm⟩:=aI hm
  obtain⟨p,hp,hm⟩:=ah hm
  rw[←eh hp]
  unfold NZ at hm
  split at hm
  ·obtain⟨_,hm⟩:=aI hm;cases hm;rfl
  ·cases hm
 ·obtain⟨_,hm⟩:=aI hm
  obtain⟨p,hp,hm⟩:=ah hm
  rw[←eh hp]
  unfold Of at hm
  split at hm
  ·obtain⟨_,hm⟩:=aI hm;cases hm;rfl
  ·cases hm
 ·cases hm
theorem GS{t tx:TypeId}{s x:AV}{q:AV×Hp}(hm:xY P B h t tx s x=some q):h.nx<=q.2.nx:=by
 obtain⟨I,_,hm⟩:=ah hm
 obtain⟨ys,_,hm⟩:=ah hm
 obtain⟨_,hm⟩:=aI hm
 obtain⟨p,hp,hm⟩:=ah hm
 obtain⟨_,hm⟩:=aI hm
 rw[dz] at hm
 cases hm
 have:=ON hp
 show _<=(p.2.add _).nx
 rw[kS];omega
theorem LX{t tx:TypeId}{s x:AV}{q:AV×Hp}(hm:Km P B h t tx s x=some q):h.nx<=q.2.nx:=by
 obtain⟨I,_,hm⟩:=ah hm
 obtain⟨ys,_,hm⟩:=ah hm
 obtain⟨_,hm⟩:=aI hm
 obtain⟨i,off,len,cap,_,hm⟩:=su hm
 obtain⟨p,hp,hm⟩:=ah hm
 have:=eh hp
 unfold Jz at hm
 split at hm
 ·obtain⟨_,hm⟩:=aI hm
  cases hm
  show _<=p.2.nx
  omega
 ·cases hm
theorem Ji{t:TypeId}{x:AV}(hm:CI P B h t x=some h'):h.nx<=h'.nx:=by
 obtain⟨I,_,hm⟩:=ah hm
 split at hm
 ·cases hm;exact Nat.le_refl _
 ·cases hm;exact Nat.le_refl _
 ·rcases cH hm with⟨_,hm⟩|⟨_,hm⟩
  ·obtain⟨p,hp,hm⟩:=ah hm
   have:=eh hp
   unfold NP at hm
   split at hm
   ·obtain⟨_,hm⟩:=aI hm
    cases hm
    show _<=p.2.nx
    omega
   ·cases hm
  ·cases hm;exact Nat.le_refl _
 ·cases hm
theorem GI{t:TypeId}{m k:AV}(hm:yt P B h t m k=some h'):h.nx<=h'.nx:=by
 obtain⟨kt,_,hm⟩:=ah hm
 obtain⟨i,_,hm⟩:=ah hm
 obtain⟨p,hp,hm⟩:=ah hm
 have:=eh hp
 unfold NW at hm
 split at hm
 ·obtain⟨_,hm⟩:=aI hm
  cases hm
  show _<=p.2.nx
  omega
 ·cases hm
theorem Ih{i:Nat}{kd:KD}{es:List (AV×AV×Nat)}{c:Nat}{k v:AV}{h1:Hp}{x:Option AV}(hz:Bm i kd es c k v h x=some h1):h1.nx=h.nx:=by
 unfold Bm at hz
 cases x with
 |none=>simp only[dz] at hz;cases hz;rfl
 |some z=>cases hz;rfl
theorem Hr{e:Tr}{t:TypeId}{x y u:Operand}{q:AV×Hp}(hm:KX P e B h t x y u=some q):h.nx<=q.2.nx:=by
 obtain⟨m,_,hm⟩:=ah hm
 obtain⟨k,_,hm⟩:=ah hm
 obtain⟨v,_,hm⟩:=ah hm
 obtain⟨h1,hz,rfl⟩:=od hm
 obtain⟨kt,_,hz⟩:=ah hz
 obtain⟨i,_,hz⟩:=ah hz
 obtain⟨p,hp,hz⟩:=ah hz
 have:=eh hp
 unfold N0 at hz
 split at hz
 ·obtain⟨_,hz⟩:=aI hz
  show h.nx<=h1.nx
  rw[←this]
  exact Nat.le_of_eq (Ih hz).symm
 ·cases hz
theorem PL{t:TypeId}{a:AV}{q:AV×Hp}(hm:It P B h t a=some q):h.nx<=q.2.nx:=by
 unfold It at hm
 split at hm
 ·obtain⟨_,hm⟩:=aI hm;cases hm;show _<=(h.add _).nx;rw[kS];omega
 ·obtain⟨_,hm⟩:=aI hm
  obtain⟨q,_,hm⟩:=ah hm
  cases hm;show _<=(h.add _).nx;rw[kS];omega
 ·cases hm
theorem LD{isS:Bool}{i:Nat}{p:Ch×Hp}{q:AV×Hp}(hm:nxA B isS i p=some q):q.2.nx=p.2.nx:=by
 unfold nxA at hm
 split at hm
 ·unfold nxS at hm
  split at hm
  ·cases hm;rfl
  ·obtain⟨_,hm⟩:=aI hm;rw[dz] at hm;cases hm;rfl
 ·obtain⟨m,_,hm⟩:=ah hm
  obtain⟨_,hm⟩:=aI hm
  unfold nxM at hm
  split at hm
  ·cases hm;rfl
  ·cases hm;rfl
  ·cases hm
 ·cases hm
theorem OS{b:Builtin}{azs:List Operand}{ts:List TypeId}{e:Tr}{f:Tr->Bs->Hp->Option (AV×Hp)}{q:AV×Hp}(hf:xoB X b azs ts= .w f)(hm:f e B h=some q):h.nx<=q.2.nx:=by
 unfold xoB at hf
 split at hf<;>first|(cases hf;done)|skip
 ·unfold tD at hf
  split at hf<;>cases hf
 ·cases hf
  obtain⟨s,_,hm⟩:=ah hm
  obtain⟨z,_,hm⟩:=ah hm
  exact GS hm
 ·cases hf
  obtain⟨s,_,hm⟩:=ah hm
  obtain⟨z,_,hm⟩:=ah hm
  exact LX hm
 ·cases hf
  obtain⟨s,_,hm⟩:=ah hm
  obtain⟨h1,hz,rfl⟩:=od hm
  exact Ji hz
 ·cases hf
  obtain⟨s,_,hm⟩:=ah hm
  obtain⟨z,_,hm⟩:=ah hm
  obtain⟨h1,hz,rfl⟩:=od hm
  exact GI hz
theorem I7{t:Nat}{cs:List AV}{q:AV×Hp}(hm:IE h t cs=some q):h.nx<=q.2.nx:=by
 cases hm;show _<=(h.add _).nx;rw[kS];omega
theorem Ob{o:Op}{e:Tr}{f:Tr->Bs->Hp->Option (AV×Hp)}{q:AV×Hp}(hf:xo X o= .w f)(hm:f e B h=some q):h.nx<=q.2.nx:=by
 cases ho:o<;>rw[ho] at hf<;>try (cases hf;done)
 case store t x y=>
  cases hf
  obtain⟨a,_,hm⟩:=ah hm
  obtain⟨v,_,hm⟩:=ah hm
  obtain⟨h1,hz,rfl⟩:=od hm
  obtain⟨s,_,hz⟩:=ah hz
  obtain⟨_,hz⟩:=aI hz
  exact Nat.le_of_eq (Lh hz).symm
 case alloc t=>
  cases hf
  obtain⟨z,_,hm⟩:=ah hm
  exact I7 hm
 case box t x=>
  cases hf
  obtain⟨z,_,hm⟩:=ah hm
  exact I7 hm
 case buildSlice t m ps=>
  cases hf
  obtain⟨I,_,hm⟩:=ah hm
  obtain⟨css,_,hm⟩:=ah hm
  obtain⟨r,_,hm⟩:=ah hm
  obtain⟨_,hm⟩:=aI hm
  cases hm;show _<=(h.add _).nx;rw[kS];omega
 case makeSlice t x y=>
  cases hf
  obtain⟨m,hx,hm⟩:=ah hm
  obtain⟨c,hy,hm⟩:=ah hm
  obtain⟨I,_,hm⟩:=ah hm
  obtain⟨_,hm⟩:=aI hm
  cases hm;show _<=(h.add _).nx;rw[kS];omega
 case makeMap t rs=>
  cases rs<;>first|(cases hf;done)|skip
  cases hf
  obtain⟨kt,_,hm⟩:=ah hm
  obtain⟨kd,_,hm⟩:=ah hm
  cases hm;show _<=(h.add _).nx;rw[kS];omega
 case mapUpdate t x y u=>cases hf;exact Hr hm
 case insert t x y u=>cases hf;exact Hr hm
 case range t x=>
  cases hf
  obtain⟨s,_,hm⟩:=ah hm
  exact PL hm
 case next x isS=>
  cases hf
  obtain⟨i,_,hm⟩:=ah hm
  obtain⟨p,hp,hm⟩:=ah hm
  have h1:=eh hp
  have h2:=LD hm
  omega
 case slice t x lo hi mx=>cases mx<;>cases hf
 case typeAssert x u t c=>cases c<;>cases hf
 case makeFunc fn fs cs=>cases fn<;>cases hf
 case convert s d x=>
  have hf:xoV X.P s d x= .w f:=hf
  unfold xoV at hf
  split at hf<;>first|(cases hf;done)|skip
  cases hf
  obtain⟨_,hm⟩:=aI hm
  obtain⟨a,_,hm⟩:=ah hm
  unfold LJ at hm
  split at hm
  ·obtain⟨_,hm⟩:=aI hm
   rw[dz] at hm
   cases hm;show _<=(h.add _).nx;rw[kS];omega
  ·cases hm
 case call c=>
  obtain⟨callee,args,argTypes⟩:=c
  cases callee<;>first|(cases hf;done)|skip
  exact OS hf hm
end
end Go.Ex
namespace Go.Ex
open Go Go.SL
inductive Marks:List Deferred->List Own->Prop
 |nil:Marks [] []
 |cons {D:Nat} {ds:List Deferred} {M:List Own} (h:Marks ds M):Marks ({target:=.collected D,args:=#[]}::ds) (dfC D::M)
def St(k:Nat)(ρ:Rho)(e:Tr)(B:Bs)(OB:List Own)(h:Hp)(R:List RO)(F:List Own)(a:Act)(w:World):Prop:=
 ∃L O M,ER ρ e L/\HR ρ B OB h O/\Marks a.defers M/\Fr ⟨k,a.defers⟩ L a/\Sat R (O++(M++F)) w
def exM:Xt->Exit->Prop
 | .nm,.normal=>True
 | .rt,.ret=>True
 | .ex i,.exit j=>i=j
 |_,_=>False
def kQ(X:Fx)(R:List RO)(rc:RC):Prop:= ∀(y:Bool) (c:Code) (e:Tr) (B:Bs) (h:Hp) (x:Xt) (e':Tr) (h':Hp),rc y c e B h=some (x,e',h')->
 h.nx<=h'.nx/\ ∀(ro:Option Nat) (k:Nat) (ρ:Rho) (OB F:List Own) (a:Act) (w:World),codeOk k c=true->(y=true->ro=none)->Nw ρ h.nx h'.nx->St k ρ e B OB h R F a w->
  c.wpIn (fw ro) 0 X.P (λex a' w'=>exM x ex/\ ∃ρ',Ext ρ ρ' h.nx h'.nx/\St k ρ' e' B OB h' R F a' w') a w
def Jn(ρ:Rho)(B:Bs)(OB:List Own)(m:Nat)(q:AV×Hp)(R:List RO)(F:List Own):Ending->World->Prop:=λe w'=> ∃v ρ' O',e= .returned v/\Ext ρ ρ' m q.2.nx/\VR ρ' q.1 v/\HR ρ' B OB q.2 O'/\Sat R (O'++F) w'
def QF(P:Program)(g:FuncId)(args:Array Value)(w:World)(K:Ending->World->Prop):Prop:=
 (cZ P g=true/\Calls P g args w K)∨ ∃v w',(callFunc g args).run P w= .ok (.value v) w'/\K (.returned v) w'
def rp(P:Program)(R:List RO)(g:Nat)(args:List AV)(B:Bs)(h:Hp)(q:AV×Hp):Prop:=
 ∀(ρ:Rho) (OB O F:List Own) (vs:List Value) (w:World),VRs ρ args vs->HR ρ B OB h O->Nw ρ h.nx q.2.nx->Sat R (O++F) w->QF P g vs.toArray w (Jn ρ B OB h.nx q R F)
def sy(X:Fx)(R:List RO):Prop:= ∀g k,X.K g=some k-> ∀(args:List AV) (B:Bs) (h:Hp) (q:AV×Hp),k args B h=some q->h.nx<=q.2.nx/\rp X.P R g args B h q
structure Jo(P:Program)(R:List RO)(once:Nat):Prop where
 body:cZ P once=true
 done: ∀(g off t f:Nat) (cs fa fc:List Value) (O:List Own) (w:World),cs[off]? =some (.int .u32 1)->Sat R (az g t cs::O) w->
  Calls P once #[.pointer (some ⟨g,off,none⟩),.func (.func f) fa.toArray fc.toArray] w λe w'=>e= .returned (.tuple #[])/\Sat R (az g t cs::O) w'
 run: ∀(g off t f:Nat) (cs fa fc:List Value) (O:List Own) (w:World) (Q:Nat->List Value->List Own->Prop),cs[off]? =some (.int .u32 0)->cs[off+1]? =some (.int .i32 0)->cZ P f=true->Sat R (az g t cs::O) w->
  (∀w,Sat R (az g t (Go.SL.spl cs (off+1) [.int .i32 1])::O) w->Calls P f (fa++fc).toArray w λe w'=> ∃v t' cs' O',e= .returned v/\cs'[off]? =some (.int .u32 0)/\cs'[off+1]? =some (.int .i32 1)/\Q t' cs' O'/\Sat R (az g t' cs'::O') w')->
  Calls P once #[.pointer (some ⟨g,off,none⟩),.func (.func f) fa.toArray fc.toArray] w λe w'=> ∃t' cs' O',e= .returned (.tuple #[])/\Q t' cs' O'/\Sat R (az g t' (Go.SL.spl cs' off [.int .u32 1,.int .i32 0])::O') w'
structure gB(X:Fx)(R:List RO):Prop where
 q:QOk X.P X.Q
 g:GOk X.G R
 k:sy X R
 mix:X.P.follows .mixedOrders=true
 once:(X.P.funcs[X.once]?).isSome=true->Jo X.P R X.once
section
variable{ρ:Rho}{X:Fx}{P:Program}{n:Sz}{o:Oper}{L:Env}{R:List RO}{O F:List Own}{e:Tr}{r:AV}{B:Bs}{OB:List Own}{h h':Hp}
def KK(tmps:Array Value):ResultVar->Sem Value
 | .tmp t=>pure (tmps.getD t undef)
 | .cell p t=>do loadVar t (←asAddr (tmps.getD p undef))
theorem C6(fn:Func)(tmps:Array Value):results fn tmps=(do let vs ←fn.results.mapM (KK tmps);pure (if h:vs.size=1 then vs[0] else .tuple vs)):=by
 unfold results
 exact congrArg (λ(f:ResultVar->Sem Value)=>(do let vs ←fn.results.mapM f;pure (if h:vs.size=1 then vs[0] else .tuple vs))) (funext λx=>by cases x<;>rfl)
theorem EC(hG:GOk X.G R)(hE:ER ρ e L)(H:HR ρ B OB h O): ∀{rs:List ResultVar} {l:List AV},iO (Px X B h e) rs=some l-> ∃vs,VRs ρ l vs/\ ∀(k:Sz) (a:Act) w,Fr k L a->Sat R (O++F) w->
 (rs.mapM (KK a.tmps)).run X.P w= .ok vs w
 | [],l,hl=>by
   cases hl
   exact⟨[],.nil,λk a w _ _=>by simp⟩
 |x::rs,l,hl=>by
  obtain⟨b,hb,hl⟩:=ah hl
  obtain⟨s,hs,hl⟩:=ah (x:=iO (Px X B h e) rs) hl
  cases hl
  obtain⟨vs,hvs,hrun⟩:=EC hG hE H hs
  cases x with
  |tmp t=>
   obtain⟨v,hv,hf⟩:=hE t b hb
   exact⟨v::vs,.cons hv hvs,λk a w hfr hs=>by
    rw[List.mapM_cons]
    simp only[KK,Sem.run_bind,Sem.run_pure,Result.andThen_ok,hrun k a w hfr hs,hfr.get t v hf]⟩
  |cell p t=>
   obtain⟨pa,hpa,hb⟩:=ah (x:=e.get p) hb
   obtain⟨vp,hvp,hf⟩:=hE p pa hpa
   obtain⟨ad,v,rfl,hv,hl⟩:=yq hG H hb hvp
   exact⟨v::vs,.cons hv hvs,λk a w hfr hs=>by
    rw[List.mapM_cons]
    simp only[KK,Sem.run_bind,Sem.run_pure,Result.andThen_ok,hrun k a w hfr hs,hfr.get p _ hf,asAddr,hl w (λp hp=>hs.read hp) (λc hc=>hs.see (List.mem_append_left _ hc))]⟩
theorem LW{l:List AV}{vs:List Value}(h:VRs ρ l vs):VR ρ (Rg l) (if h:vs.toArray.size=1 then vs.toArray[0] else .tuple vs.toArray):=by
 match l,vs,h with
 | [],[],.nil=>exact .tu .nil
 | [a],[v],.cons h .nil=>exact h
 |a::b::l,v::u::vs,.cons h1 (.cons h2 h)=>
  have: ¬(v::u::vs).toArray.size=1:=by simp
  rw[dif_neg this]
  exact .tu (.cons h1 (.cons h2 h))
theorem B1{fn:Func}(hG:GOk X.G R)(hE:ER ρ e L)(H:HR ρ B OB h O)(hr:pO X fn.results.toList e B h=some r): ∃v,VR ρ r v/\ ∀(k:Sz) (a:Act) w,Fr k L a->Sat R (O++F) w->(results fn a.tmps).run X.P w= .ok v w:=by
 obtain⟨l,hl,hr⟩:=ah hr
 cases hr
 obtain⟨vs,hvs,hrun⟩:=EC (F:=F) hG hE H hl
 refine⟨_,LW hvs,λk a w hfr hs=>?_⟩
 rw[C6,Array.mapM_eq_mapM_toList,map_eq_pure_bind]
 simp only[Sem.run_bind,hrun k a w hfr hs,Result.andThen_ok,Sem.run_pure]
theorem yL{fn:Func}{tmps:Array Value}{v:Value}{Rr:Ending->World->Prop}(hres: ∀w,Sat R (O++F) w->(results fn tmps).run P w= .ok v w/\Rr (.returned v) w):
 ∀{ds:List Deferred} {M:List Own} (_:Marks ds M) (w:World),Sat R (O++(M++F)) w->LeavesInM (fw none) 0 P fn tmps Rr ds .returning w:=by
 intro ds M hM
 induction hM with
 |nil=>intro w hs;obtain⟨h1,h2⟩:=hres w hs;exact⟨v,h1,h2⟩
 |cons hM ih=>
  rename_i D ds M
  intro w hs
  have hp:(O++(dfC D::M++F)).Perm (dfC D::(O++(M++F))):=List.perm_middle
  have hs:=hs.perm hp
  have hD:w.heap[D]? =some (.deferred (some [])):=hs.see List.mem_cons_self
  have hs2:Sat R (O++(M++F)) (w.putObj D (.deferred none)):=by
   refine(hs.update (w':=w.putObj D (.deferred none)) ⟨[],λ_=>True⟩ ⟨rfl,rfl,rfl,by simp[World.putObj],λk _ hn=>?_⟩ (λk hk=>by cases hk) (λk hk=>by cases hk) List.nodup_nil (λ_ _ _=>trivial)).drop
   exact World.putObj_heap_other (λe=>hn (by rw[e];exact List.mem_singleton.2 rfl))
  exact⟨by simp,.inl ⟨D,_,rfl,run_takeDeferred hD,ih _ hs2⟩⟩
def MM:List Value->Nat->Env->Env
 | [],_,L=>L
 |v::r,k,L=>MM r (k+1) ((k,v)::L)
theorem ER.args: ∀{l:List AV} {vs:List Value} {t:Tr} {k:Nat} {L:Env},VRs ρ l vs->ER ρ t L->ER ρ (Tr.args l k t) (MM vs k L)
 | [],_,_,_,_,.nil,h=>h
 |a::l,_,t,k,L,.cons (v:=v) (r:=r) hv hr,h=>ER.args (l:=l) (vs:=r) (t:=t.put k a) (k:=k+1) (L:=(k,v)::L) hr (h.put (d:=k) hv)
theorem wW: ∀{l:List Value} {k t:Nat} {L:Env} {v:Value},Env.find (MM l k L) t=some v->(k<=t/\l[t-k]? =some v)∨Env.find L t=some v
 | [],_,_,_,_,h=>.inr h
 |x::r,k,t,L,v,h=>by
  rcases wW (l:=r) h with⟨h1,h2⟩|h
  ·refine .inl ⟨by omega,?_⟩
   rw[show t-k=(t-(k+1))+1 from by omega]
   simpa using h2
  ·simp only[Env.find] at h
   by_cases e:k=t
   ·subst e
    simp only[Nat.beq_refl,Option.some.injEq] at h
    exact .inl ⟨Nat.le_refl _,by simp[h]⟩
   ·rw[show Nat.beq k t=false from by rw[←Bool.not_eq_true,Nat.beq_eq];exact e] at h
    exact .inr h
theorem ER.empty:ER ρ .z []:=λt a h=>by cases h
theorem uc{α:Type}{f g:α->Bool}(h: ∀x,f x=true->g x=true): ∀{l:List α},gu f l=true->gu g l=true
 | [],_=>rfl
 |a::r,hl=>by
  obtain⟨h1,h2⟩:=cH (show ifb (f a) (gu f r) false=true from hl) |>.resolve_right (λh=>by cases h.2)
  show ifb (g a) (gu g r) false=true
  rw[h a h1]
  exact uc h h2
theorem Gw{k m:Nat}(hkm:k<=m){o:Oper}(h:oP k o=true):oP m o=true:=by
 obtain⟨h1,h2⟩:=bZ h
 unfold oP
 rw[h2,Bool.and_true]
 unfold dOk at h1⊢
 cases hd:o.dst with
 |none=>rfl
 |some d=>
  rw[hd] at h1
  exact Nat.ble_eq_true_of_le (Nat.le_trans (Nat.le_of_ble_eq_true h1) hkm)
theorem er{k m:Nat}(hkm:k<=m): ∀{c:Code},codeOk k c=true->codeOk m c=true
 | .skip,_=>rfl
 | .region _ ops _,h=>uc (λo ho=>Gw hkm ho) h
 | .seq a b,h=>by obtain⟨h1,h2⟩:=bZ h;show(codeOk m a&&codeOk m b)=true;rw[er hkm h1,er hkm h2];rfl
 | .cond _ a b,h=>by obtain⟨h1,h2⟩:=bZ h;show(codeOk m a&&codeOk m b)=true;rw[er hkm h1,er hkm h2];rfl
 | .block _ a,h=>er (c:=a) hkm h
 | .loop a,h=>er (c:=a) hkm h
 | .rangeFunc _ ps a b,h=>by
   obtain⟨h1,h2⟩:=bZ h
   obtain⟨h2,h3⟩:=bZ h2
   show(gu (λp=>Nat.blt p m) ps.toList&&(codeOk m a&&codeOk m b))=true
   rw[uc (g:=λp=>Nat.blt p m) (λp hp=>Nat.ble_eq_true_of_le (Nat.le_trans (Nat.le_of_ble_eq_true hp) hkm)) h1,er hkm h2,er hkm h3];rfl
 | .exit _,_=>rfl
 | .scope _,_=>rfl
 | .label _,_=>rfl
 | .goto _,_=>rfl
 | .ret,_=>rfl
 | .refuse _,_=>rfl
theorem xG{g:Nat}{f:FnX}(h:OJ P g=some f): ∃fn,P.funcs[g]? =some fn/\fn.body=some f.c/\f.rs=fn.results.toList/\codeOk fn.ntmps f.c=true/\cZ P g=true:=by
 obtain⟨fn,hfn,h⟩:=ah h
 obtain⟨c,hc,h⟩:=ah h
 obtain⟨h1,h⟩:=aI h
 cases h
 obtain⟨h1,h2⟩:=bZ h1
 refine⟨fn,hfn,hc,rfl,h2,?_⟩
 unfold cZ
 rw[hfn]
 simp only[hc,Option.isSome_some,Bool.true_and]
 exact h1
theorem xn{x:Option AV}{q:AV×Hp}(h1:keep h x=some q):x=some q.1/\q.2=h:=by
 unfold keep at h1
 split at h1
 ·cases h1;exact⟨rfl,rfl⟩
 ·cases h1
theorem De{rs:List ResultVar}{r:Rs}{q:AV×Hp}(h1:JI X rs B r=some q): ∃x e' h',r=some (x,e',h')/\(x= .nm∨x= .rt)/\pO X rs e' B h'=some q.1/\q.2=h':=by
 obtain⟨p,hp,h1⟩:=ah h1
 obtain⟨x,e',h'⟩:=p
 cases x with
 |nm=>obtain⟨h2,h3⟩:=xn h1;exact⟨_,_,_,hp,.inl rfl,h2,h3⟩
 |rt=>obtain⟨h2,h3⟩:=xn h1;exact⟨_,_,_,hp,.inr rfl,h2,h3⟩
 |ex i=>cases h1
theorem qZ{rc:RC}(hX:gB X R)(hrc:kQ X R rc){g:Nat}{args:List AV}{q:AV×Hp}(hm:Dg X rc g args B h=some q):h.nx<=q.2.nx/\rp X.P R g args B h q/\cZ X.P g=true:=by
 obtain⟨f,hf,hm⟩:=ah hm
 obtain⟨fn,hfn,hbody,hrs,hok,hhb⟩:=xG hf
 obtain⟨x,e',h',hrun,hx,hres,hq⟩:=De hm
 obtain⟨hle,hwp⟩:=hrc _ _ _ _ _ _ _ _ hrun
 rw[hq]
 refine⟨hle,λρ OB O F vs w hvs H hN hs=>.inl ⟨hhb,?_⟩,hhb⟩
 rw[hq] at hN
 refine mv.1 (callsIn_of_wp_marks (F:=fw none) (n:=0) hfn hbody trivial ?_)
 refine wpIn_mono (hwp none (max fn.ntmps vs.length) ρ OB F _ w (er (Nat.le_max_left ..) hok) (λ_=>rfl) hN ⟨MM vs 0 [],O,[],ER.args hvs ER.empty,H,.nil,⟨?_,rfl,λt v ht=>?_⟩,hs⟩) λex a' w' hq'=>?_
 ·simp;omega
 ·rcases wW ht with⟨_,h2⟩|h2
  ·simp only[Nat.sub_zero] at h2
   have hlt:t<vs.length:=(List.getElem?_eq_some_iff.1 h2).1
   simp only[Array.getD_eq_getD_getElem?]
   rw[Array.getElem?_append_left (by simpa using hlt)]
   simp[h2]
  ·cases h2
 ·obtain⟨hex,ρ',hE',L',O',M',hER,hHR,hM,hfr,hs'⟩:=hq'
  obtain⟨v,hv,hrs'⟩:=B1 (F:=F) (fn:=fn) hX.g hER hHR (by rw[←hrs];exact hres)
  have hl:=yL (P:=X.P) (fn:=fn) (tmps:=a'.tmps) (v:=v) (Rr:=Jn ρ B OB h.nx q R F) (λw hs=>⟨hrs' _ a' w hfr hs,v,ρ',O',rfl,by rw[hq];exact hE',hv,by rw[hq];exact hHR,hs⟩) hM w' hs'
  rcases hx with rfl|rfl
  ·cases ex with
   |normal=>exact hl
   |_=>exact hex.elim
  ·cases ex with
   |ret=>exact hl
   |_=>exact hex.elim
end
end Go.Ex
namespace Go.Ex
open Go Go.SL
section
variable{ρ:Rho}{X:Fx}{P:Program}{n:Sz}{o:Oper}{L:Env}{R:List RO}{O F:List Own}{e:Tr}{r:AV}{B:Bs}{OB:List Own}{h h':Hp}{rc:RC}
theorem vd{k:IntKind}{p:Int->Bool}{a:Option AV}(h:isI k p a=true): ∃n,a=some (.it k n)/\p n=true:=by
 unfold isI at h
 split at h
 ·obtain⟨h1,h2⟩:=bZ h
  obtain rfl:=pb h1
  exact⟨_,rfl,h2⟩
 ·cases h
theorem zb{n:Int}(h:Ld n=true):n=0:=by
 cases n with
 |ofNat m=>have h:Nat.beq m 0=true:=h;rw[Nat.eq_of_beq_eq_true h];rfl
 |negSucc m=>cases h
theorem EH{n:Int}(h:P4 n=true):n=1:=by
 cases n with
 |ofNat m=>have h:Nat.beq m 1=true:=h;rw[Nat.eq_of_beq_eq_true h];rfl
 |negSucc m=>cases h
theorem VRs.int{l:List AV}{vs:List Value}(h:VRs ρ l vs){k:Nat}{kd:IntKind}{n:Int}(hk:nth l k=some (.it kd n)):vs[k]? =some (.int kd n):=by
 rw[gN] at hk
 obtain⟨u,hu,hv⟩:=h.get hk
 cases hv
 exact hu
theorem Lp(hX:gB X R)(hrc:kQ X R rc)(hO:Jo X.P R X.once){args:List AV}{q:AV×Hp}(hm:JL X rc B h args=some q):h.nx<=q.2.nx/\rp X.P R X.once args B h q:=by
 unfold JL at hm
 split at hm
 ·rename_i i off f a c
  obtain⟨p,hp,hm⟩:=ah hm
  obtain⟨ch,h1⟩:=p
  have hnx1:=eh hp
  unfold Oe at hm
  split at hm
  ·rename_i t cs heq
   have heq:ch= .row t cs:=heq
   subst heq
   rcases cH hm with⟨hz,hm⟩|⟨_,hm⟩
   ·obtain⟨hz2,hm⟩:=aI hm
    obtain⟨r1,hr1,hm⟩:=ah hm
    obtain⟨q1,hq1,hm⟩:=ah hm
    obtain⟨ch2,h2⟩:=q1
    have hnx2:=eh hq1
    obtain⟨hle,hcall,hbody⟩:=qZ hX hrc hr1
    unfold N7 at hm
    split at hm
    ·rename_i t' cs' heq
     have heq:ch2= .row t' cs':=heq
     subst heq
     obtain⟨hz3,hm⟩:=aI hm
     cases hm
     obtain⟨hz3,hz4⟩:=bZ hz3
     have e0:(h1.put i (.row t (nG cs (off+1) [.it .i32 1]))).nx=h.nx:=hnx1
     rw[e0] at hle
     have e2:h2.nx=r1.2.nx:=hnx2
     refine⟨by show h.nx<=h2.nx;omega,λρ OB O F vs w hvs H hN hs=>.inl ⟨hO.body,?_⟩⟩
     have hN:Nw ρ h.nx r1.2.nx:=by rw[←e2];exact hN
     cases hvs with
     |cons hv1 hr=>
      cases hr with
      |cons hv2 hr=>
       cases hr
       cases hv1 with
       |pt hi=>
        rename_i g
        cases hv2 with
        |fn ha hc=>
         rename_i va vc
         obtain⟨own,O',hT,hC,hH,_⟩:=H.take hp
         cases hC with
         |row hi' hcv=>
          rename_i g' vcs
          rw[hi] at hi';cases hi'
          obtain⟨n0,hn0,hn0'⟩:=vd hz
          obtain⟨n1,hn1,hn1'⟩:=vd hz2
          obtain rfl:=zb hn0'
          obtain rfl:=zb hn1'
          have hs':=hs.perm (take_left hT F).perm
          refine(hO.run g off t f vcs va vc (O'++F) w (λt'' cs'' O''=> ∃ρ' O1,Ext ρ ρ' h.nx h2.nx/\CR ρ' i (.row t' cs') (az g t'' cs'')/\VRs ρ' cs' cs''/\t''=t'/\ρ' i=some (.b g)/\HR ρ' B OB h2 O1/\O''=O1++F) (hcv.int hn0) (hcv.int hn1) hbody hs' ?_).mono ?_
          ·intro w1 hs1
           have hput:HR ρ B OB (h1.put i (.row t (nG cs (off+1) [.it .i32 1]))) (az g t (Go.SL.spl vcs (off+1) [.int .i32 1])::O'):=hH.put (.row hi (hcv.spl (.cons (.it _ _) .nil) _))
           have hcw:=hcall ρ OB _ F (va++vc) w1 (ha.append hc) hput (by rw[e0];exact hN) hs1
           have hcw:Calls X.P f (va++vc).toArray w1 (Jn ρ B OB (h1.put i (.row t (nG cs (off+1) [.it .i32 1]))).nx r1 R F):=by
            rcases hcw with⟨_,hcw⟩|⟨v,w',hrun,_⟩
            ·exact hcw
            ·rw[di hbody] at hrun;cases hrun
           refine hcw.mono λe w' he=>?_
           obtain⟨v,ρ',O2,rfl,hE,_,hH2,hs2⟩:=he
           rw[e0] at hE
           obtain⟨own2,O3,hT2,hC2,hH3,_⟩:=hH2.take hq1
           have hs3:=hs2.perm (take_left hT2 F).perm
           have hi2:ρ' i=some (.b g):=hE.1 _ _ hi
           cases hC2 with
           |row hi3 hcv2=>
            rename_i g2 vcs2
            rw[hi2] at hi3;cases hi3
            obtain⟨m0,hm0,hm0'⟩:=vd hz3
            obtain⟨m1,hm1,hm1'⟩:=vd hz4
            obtain rfl:=zb hm0'
            obtain rfl:=EH hm1'
            exact⟨v,t',vcs2,O3++F,rfl,hcv2.int hm0,hcv2.int hm1,⟨ρ',O3,by rw[e2];exact hE,.row hi2 hcv2,hcv2,rfl,hi2,hH3,rfl⟩,hs3⟩
          ·rintro e w' ⟨t'',cs'',O'',rfl,⟨ρ',O1,hE,_,hcv2,rfl,hi2,hH3,rfl⟩,hs2⟩
           exact⟨.tuple #[],ρ',_,rfl,hE,.tu .nil,hH3.put (.row hi2 (hcv2.spl (.cons (.it _ _) (.cons (.it _ _) .nil)) _)),hs2⟩
    ·cases hm
   ·obtain⟨hz,hm⟩:=aI hm
    cases hm
    refine⟨Nat.le_refl _,λρ OB O F vs w hvs H hN hs=>.inl ⟨hO.body,?_⟩⟩
    cases hvs with
    |cons hv1 hr=>
     cases hr with
     |cons hv2 hr=>
      cases hr
      cases hv1 with
      |pt hi=>
       rename_i g
       cases hv2 with
       |fn ha hc=>
        rename_i va vc
        obtain⟨own,O',hT,hC,hH,_⟩:=H.take hp
        cases hC with
        |row hi' hcv=>
         rename_i g' vcs
         rw[hi] at hi';cases hi'
         obtain⟨n0,hn0,hn0'⟩:=vd hz
         obtain rfl:=EH hn0'
         have hs':=hs.perm (take_left hT F).perm
         refine(hO.done g off t f vcs va vc (O'++F) w (hcv.int hn0) hs').mono ?_
         rintro e w' ⟨rfl,hs2⟩
         exact⟨.tuple #[],ρ,O,rfl,Ext.refl ..,.tu .nil,H,hs2.perm (take_left hT F).perm.symm⟩
  ·cases hm
 ·cases hm
theorem kF(hX:gB X R)(hrc:kQ X R rc){g:Nat}{args:List AV}{q:AV×Hp}(hm:sr X rc g args B h=some q):h.nx<=q.2.nx/\rp X.P R g args B h q:=by
 unfold sr N2 at hm
 cases hk:X.K g with
 |some k=>
  rw[hk] at hm
  exact hX.k g k hk args B h q hm
 |none=>
  rw[hk] at hm
  have hm:N5 X rc g args B h=some q:=hm
  rcases cH hm with⟨h1,hm⟩|⟨_,hm⟩
  ·obtain rfl:=Nat.eq_of_beq_eq_true h1
   obtain⟨fn,hfn,hm⟩:=ah hm
   exact Lp hX hrc (hX.once (by rw[hfn];rfl)) hm
  ·exact⟨(qZ hX hrc hm).1,(qZ hX hrc hm).2.1⟩
theorem vT{g:Nat}{args:List AV}{vs:List Value}{q:AV×Hp}(hC:rp P R g args B h q)(hv:VRs ρ args vs)(hE:ER ρ e L)(H:HR ρ B OB h O)(hN:Nw ρ h.nx q.2.nx)(hd:DOk o.dst n)
 (hrun: ∀σ w,(∀x u,ev L x=some u->σ x=u)->(∀p∈R,p w)->(∀c∈O,c.pred w)->(execOp σ o).run P w=(callFunc g vs.toArray).run P w):
 OpW P n o L R (O++F) (eG ρ h.nx q.2.nx (eH e o.dst q.1) B OB q.2 R F):=by
 intro a w hf hs Q
 have hr:=hrun a.eval w (λx u hx=>hf.ev hx) (λp hp=>hs.read hp) (λc hc=>hs.see (List.mem_append_left _ hc))
 unfold Oper.wp
 rw[hr]
 rcases hC ρ OB O F vs w hv H hN hs with⟨hb,hc⟩|⟨v,w',h1,v',ρ',O',he,hX,hv',hH,hs'⟩
 ·rw[di hb,Oper.upon_enter]
  exact hc.mono λe1 w' ⟨v,ρ',O',he,hX,hv',hH,hs'⟩=>by
   subst he
   exact⟨mI L o.dst v,R,O'++F,⟨rfl,ρ',O',hX,ju (hE.mono hX.1) _ hv',hH,rfl⟩,jC hf hd v,hs'⟩
 ·cases he
  rw[h1,Oper.upon_value]
  exact⟨mI L o.dst v,R,O'++F,⟨rfl,ρ',O',hX,ju (hE.mono hX.1) _ hv',hH,rfl⟩,jC hf hd v,hs'⟩
theorem HV(hX:gB X R)(hrc:kQ X R rc){y:Bool}{x:Operand}{xs:List Operand}{ts:Array TypeId}{l:List AV}{f:AV}{q:AV×Hp}(hE:ER ρ e L)(H:HR ρ B OB h O)(hl:iO (opv e) xs=some l)(hf:opv e x=some f)(hm:wT X rc y B h l f=some q)(hy: ∀j,f≠ .yl j)
 (hN:Nw ρ h.nx q.2.nx) (ho:o.op= .call {callee:=.value x,args:=xs.toArray,argTypes:=ts}) (hd:DOk o.dst n):OpW X.P n o L R (O++F) (eG ρ h.nx q.2.nx (eH e o.dst q.1) B OB q.2 R F):=by
 obtain⟨vs,hvs,hev⟩:=hE.ops hl
 obtain⟨vf,hvf,hx⟩:=hE.op hf
 unfold wT at hm
 split at hm
 ·rename_i g a c
  obtain⟨_,hC⟩:=kF hX hrc hm
  rw[fp,fp] at hC
  cases hvf with
  |fn ha hc=>
   rename_i va vc
   refine vT hC (ha.append (hvs.append hc)) hE H hN hd λσ w hσ _ _=>?_
   have e1:σ x=_:=hσ _ _ hx
   have e2:=hev.eval (ρ:=σ) hσ
   have e3:va.toArray++vs.toArray++vc.toArray=(va++(vs++vc)).toArray:=by simp
   simp only[execOp,ho,resolve,e1,Deferred.ofValue,List.map_toArray,e2,Sem.run_bind,Sem.run_pure,Result.andThen_ok,invoke,e3]
 ·exact absurd rfl (hy _)
 ·cases hm
theorem Io{t:TypeId}{name:String}{m:Nat×Bool}(h:Ki P t name=some m):(∃d,P.underlying t=some (.pointer d))/\((P.info? t).bind (λi=>i.methods.find? (·.name==name))).map (λm=>(m.path,m.func))=some (#[],some m):=by
 unfold Ki at h
 split at h
 ·rename_i d hd
  obtain⟨i,hi,h⟩:=ah h
  obtain⟨mm,hmm,h⟩:=ah h
  refine⟨⟨d,hd⟩,?_⟩
  split at h
  ·rename_i hp
   rw[hi]
   simp only[Option.bind_some,hmm,Option.map_some,h]
   congr 2
   exact Array.ext' hp
  ·cases h
 ·cases h
theorem H4(hX:gB X R)(hrc:kQ X R rc){x:Operand}{name:String}{xs:List Operand}{ts:Array TypeId}{l:List AV}{f:AV}{q:AV×Hp}(hE:ER ρ e L)(H:HR ρ B OB h O)(hl:iO (opv e) xs=some l)(hf:opv e x=some f)(hm:xC X rc B h name l f=some q)
 (hN:Nw ρ h.nx q.2.nx) (ho:o.op= .call {callee:=.invoke x name,args:=xs.toArray,argTypes:=ts}) (hd:DOk o.dst n):OpW X.P n o L R (O++F) (eG ρ h.nx q.2.nx (eH e o.dst q.1) B OB q.2 R F):=by
 obtain⟨vs,hvs,hev⟩:=hE.ops hl
 obtain⟨vf,hvf,hx⟩:=hE.op hf
 unfold xC at hm
 split at hm
 ·rename_i t a
  obtain⟨m,hmeth,hm⟩:=ah hm
  obtain⟨b,hb,hm⟩:=ah hm
  obtain⟨_,hC⟩:=kF hX hrc hm
  obtain⟨⟨d,hU⟩,hmm⟩:=Io hmeth
  obtain⟨g,p⟩:=m
  cases hvf with
  |ic hva=>
   rename_i va
   have key: ∀recv,VR ρ b recv->sD X.P R O t va name g recv->OpW X.P n o L R (O++F) (eG ρ h.nx q.2.nx (eH e o.dst q.1) B OB q.2 R F):=λrecv hrecv hM=>by
    refine vT hC (.cons hrecv hvs) hE H hN hd λσ w hσ hR hO=>?_
    have e1:σ x=_:=hσ _ _ hx
    have e2:=hev.eval (ρ:=σ) hσ
    have e3:=hM w hR hO
    have e4:(#[Value.iface t va]++vs.toArray).extract 1 (#[Value.iface t va]++vs.toArray).size=vs.toArray:=by
     apply Array.ext';simp
    have e5:(#[Value.iface t va]++vs.toArray)[0]? =some (Value.iface t va):=by simp
    have e6: #[recv]++vs.toArray=(recv::vs).toArray:=by simp
    have ep: ∀w,(program:Sem Program).run X.P w= .ok X.P w:=λw=>by simp
    simp only[execOp,ho,resolve,e1,List.map_toArray,e2,Sem.run_bind,Sem.run_pure,Result.andThen_ok,Go.invoke,e5,callMethod,e4,ep,e3,e6]
   cases p with
   |true=>
    have hb:Iw a=some b:=hb
    unfold Iw at hb
    split at hb
    ·cases hb
     have hva':=hva
     cases hva with
     |pt hi=>exact key _ hva' (BJ hmm hU)
    ·cases hb
     have hva':=hva
     cases hva with
     |pe hi=>exact key _ hva' (BJ hmm hU)
    ·cases hb
   |false=>
    have hb:(match X.P.underlying t with|some (.pointer d)=>nk X.P X.G B h d a|_=>none)=some b:=hb
    rw[hU] at hb
    obtain⟨ad,v,rfl,hv,hload⟩:=yq hX.g H hb hva
    exact key v hv (sD.val hmm hU hload)
 ·cases hm
end
end Go.Ex
namespace Go.Ex
open Go Go.SL
section
variable{ρ:Rho}{X:Fx}{P:Program}{n:Sz}{o:Oper}{L:Env}{R:List RO}{O F:List Own}{e:Tr}{r:AV}{B:Bs}{OB:List Own}{h h':Hp}{rc:RC}
theorem ER.B6: ∀{ps:List Nat} {l:List AV} {vs:List Value} {t:Tr} {L:Env},VRs ρ l vs->ER ρ t L->ER ρ (Tr.B6 ps l t) (fi ps vs L)
 | [],_,_,_,_,_,h=>h
 |_::_,_,_,_,_,.nil,h=>h
 |p::ps,_::_,_,t,L,.cons (a:=a) (v:=v) hv hr,h=>ER.B6 (ps:=ps) (t:=t.put p a) (L:=(p,v)::L) hr (h.put (d:=p) hv)
theorem yw{α:Type}(f:α->Bool): ∀l:List α,gu f l=l.all f
 | []=>rfl
 |a::r=>by
  show ifb (f a) (gu f r) false=_
  rw[List.all_cons,yw f r]
  cases f a<;>rfl
theorem pP(c:Own)(A M F:List Own):(A++(M++(c::F))).Perm (c::(A++(M++F))):=by
 rw[←List.append_assoc,←List.append_assoc]
 exact List.perm_middle
theorem BL{A M F:List Own}{w:World}(h:Sat R (A++(M++F)) w):Sat R (A++F) w:=by
 induction M with
 |nil=>exact h
 |cons c M ih=>exact ih ((h.perm (show(A++(c::M++F)).Perm (c::(A++(M++F))) from List.perm_middle)).drop)
theorem xD{j:Nat}{ps:List Nat}{asg body:Code}{r:Rs}{q:AV×Hp}(h:PM j e ps asg body r=some q): ∃x e2 h3,r=some (x,e2,h3)/\ ∃b xo,q=(.bo b,h3.put j (.lp e xo ps asg body))/\(x= .nm->b=true/\xo=none)/\(x≠ .nm->b=false/\xo=some x):=by
 match r,h with
 |some (.nm,e2,h3),h=>cases h;exact⟨_,_,_,rfl,_,_,rfl,λ_=>⟨rfl,rfl⟩,λh=>absurd rfl h⟩
 |some (.rt,e2,h3),h=>cases h;exact⟨_,_,_,rfl,_,_,rfl,λh=>(by cases h),λ_=>⟨rfl,rfl⟩⟩
 |some (.ex i,e2,h3),h=>cases h;exact⟨_,_,_,rfl,_,_,rfl,λh=>(by cases h),λ_=>⟨rfl,rfl⟩⟩
theorem tZ{j:Nat}{e0:Tr}{ps:List Nat}{asg body:Code}{r:Rs}{q:AV×Hp}(h:NS rc j e0 ps asg body B r=some q): ∃e1 h2,r=some (.nm,e1,h2)/\PM j e0 ps asg body (rc false body e1 B h2)=some q:=by
 match r,h with
 |some (.nm,e1,h2),h=>exact⟨_,_,rfl,h⟩
theorem JV(hX:gB X R)(hrc:kQ X R rc){j k:Nat}{l:List AV}{q:AV×Hp}{x:Operand}{xs:List Operand}{ts:Array TypeId}(hl:iO (opv e) xs=some l)(hf:opv e x=some (.yl j))(hm:bnd (h.take B j) (nI rc j l B)=some q)(ho:o.op= .call {callee:=.value x,args:=xs.toArray,argTypes:=ts})(hok:oP k o=true):
 h.nx<=q.2.nx/\ ∀(ρ:Rho) (OB F:List Own) (a:Act) (w:World) (Q:Exit->Act->World->Prop),Nw ρ h.nx q.2.nx->St k ρ e B OB h R F a w->
  o.wpIn (fw none) 0 X.P a w (λa' w'=> ∃ρ',Ext ρ ρ' h.nx q.2.nx/\St k ρ' (eH e o.dst q.1) B OB q.2 R F a' w') Q:=by
 obtain⟨p,hp,hm⟩:=ah hm
 obtain⟨ch,h1⟩:=p
 have hnx1:h1.nx=h.nx:=eh hp
 unfold nI at hm
 split at hm
 case h_2=>cases hm
 rename_i e0 ps asg body heq
 have heq:ch= .lp e0 none ps asg body:=heq
 subst heq
 obtain⟨hlen,hm⟩:=aI hm
 have hlen:=Nat.eq_of_beq_eq_true hlen
 rw[cN,cN] at hlen
 obtain⟨e1,h2,hr1,hm⟩:=tZ hm
 obtain⟨x2,e2,h3,hr2,b,xo,rfl,hx1,hx2⟩:=xD hm
 obtain⟨hle1,hwp1⟩:=hrc _ _ _ _ _ _ _ _ hr1
 obtain⟨hle2,hwp2⟩:=hrc _ _ _ _ _ _ _ _ hr2
 have hle1:h1.nx<=h2.nx:=hle1
 refine⟨by show h.nx<=h3.nx;omega,λρ OB F a w Q hN hst=>?_⟩
 have hN:Nw ρ h.nx h3.nx:=hN
 obtain⟨L,O,M,hE,H,hM,hfr,hs⟩:=hst
 obtain⟨vs,hvs,hev⟩:=hE.ops hl
 obtain⟨vf,hvf,hx⟩:=hE.op hf
 obtain⟨own,O',hT,hC,hH,_⟩:=H.take hp
 cases hvf with
 |yl hi=>
  rename_i g
  cases hC with
  |lp hi' hE0 hlx hw=>
   rename_i g' D m Lr st pe
   rw[hi] at hi';cases hi'
   cases hlx
   obtain⟨hps,hcs⟩:=bZ hw
   obtain⟨hc1,hc2⟩:=bZ hcs
   have hs1:Sat R (recC g ⟨m,[]⟩ Lr D .ready none ps.toArray asg body::(O'++(M++F))) w:=hs.perm (take_left hT (M++F)).perm
   obtain⟨fn,tmps,hl1,hf1⟩:=hs1.see List.mem_cons_self
   have hsz:vs.toArray.size=ps.toArray.size:=by simp only[List.size_toArray];rw[hvs.length,hlen]
   have hy:=run_yield (P:=X.P) (args:=vs.toArray) hl1 hsz
   refine⟨λ_ _=>trivial,?_⟩
   have e1':a.eval x=_:=hfr.ev hx
   have e2':=hev.eval (ρ:=a.eval) (λx u hx=>hfr.ev hx)
   have hr:(execOp a.eval o).run X.P w= .ok (.round g fn ((ps.toArray.zip vs.toArray).foldl (λt (p,v)=>t.setIfInBounds p v) tmps) asg body) w:=by
    simp only[execOp,ho,resolve,e1',Deferred.ofValue,List.map_toArray,e2',Sem.run_bind,Sem.run_pure,Result.andThen_ok,invoke]
    simpa using hy
   show o.uponIn _ _ _ _ _ _ ((o.semAt none a.eval).run X.P w)
   rw[Oper.semAt_none,hr,Oper.uponIn_round]
   refine⟨λhx=>Bool.noConfusion hx,?_⟩
   refine roundIn_of_wpIn trivial ?_
   have hzip:(ps.toArray.zip vs.toArray).foldl (λt (p,v)=>t.setIfInBounds p v) tmps=(ps.zip vs).foldl (λt (p,v)=>t.setIfInBounds p v) tmps:=by
    rw[←Array.foldl_toList];simp
   have hf0:Fr ⟨m,[]⟩ (fi ps vs Lr) {tmps:=(ps.toArray.zip vs.toArray).foldl (λt (p,v)=>t.setIfInBounds p v) tmps,defers:=[]}:=by
    rw[hzip];exact Fr.params ps vs (by rw[←yw];exact hps) hf1
   have st1:St m ρ (Tr.B6 ps l e0) B OB h1 R (recC g ⟨m,[]⟩ Lr D .ready none ps.toArray asg body::(M++F)) {tmps:=(ps.toArray.zip vs.toArray).foldl (λt (p,v)=>t.setIfInBounds p v) tmps,defers:=[]} w:=
    ⟨fi ps vs Lr,O',[],ER.B6 hvs hE0,hH,.nil,hf0,hs1.perm (pP _ O' [] (M++F)).symm⟩
   refine wpIn_mono (hwp1 (some g) m ρ OB _ _ w hc1 (λh=>by cases h) (hN.sub (Nat.le_of_eq hnx1.symm) hle2) st1) λex a1 w1 hq=>?_
   obtain⟨hex,ρ1,hX1,L1,O1,M1,hE1,H1,hM1,hfr1,hs2⟩:=hq
   cases ex with
   |normal=>
    have hs3:=hs2.perm (pP _ O1 M1 (M++F))
    obtain⟨fn1,tmps1,hl2,hf2⟩:=hs3.see List.mem_cons_self
    refine⟨_,run_beginRound hl2 rfl,?_⟩
    have hs4:=hs3.gJ (st':=.busy) (pe':=none) (f:=fn1) hf2
    have st2:St m ρ1 e1 B OB h2 R (recC g ⟨m,[]⟩ Lr D .busy none ps.toArray asg body::(M++F)) a1 _:=⟨L1,O1,M1,hE1,H1,hM1,hfr1,hs4.perm (pP _ O1 M1 (M++F)).symm⟩
    have hN1:Nw ρ1 h2.nx h3.nx:=(hN.sub (show h.nx<=h2.nx by omega) (Nat.le_refl _)).ext hX1 (.inl (Nat.le_refl _))
    refine wpIn_mono (hwp2 (some g) m ρ1 OB _ _ _ hc2 (λh=>by cases h) hN1 st2) λex a2 w2 hq=>?_
    obtain⟨hex2,ρ2,hX2,L2,O2,M2,hE2,H2,hM2,hfr2,hs5⟩:=hq
    have hs6:=hs5.perm (pP _ O2 M2 (M++F))
    obtain⟨fn2,tmps2,hl3,hf3⟩:=hs6.see List.mem_cons_self
    have hXX:Ext ρ ρ2 h.nx h3.nx:=by
     have:=Ext.trans hle1 hle2 hX1 hX2
     rw[hnx1] at this
     exact this
    have fin: ∀(pe:Option Code) (st':LoopState),LpX xo st' pe-> ∃ρ',Ext ρ ρ' h.nx h3.nx/\St k ρ' (eH e o.dst (.bo b)) B OB (h3.put j (.lp e0 xo ps asg body)) R F (a.put o.dst (.bool b)) (w2.putObj g (.loop {state:=st',pending:=pe,fn:=fn2,tmps:=tmps2,params:=ps.toArray,assign:=asg,body:=body,defers:=D})):=λpe st' hlx=>by
     have hs7:=hs6.gJ (st':=st') (pe':=pe) (f:=fn2) hf3
     have hs8:Sat R (recC g ⟨m,[]⟩ Lr D st' pe ps.toArray asg body::(O2++(M++F))) _:=BL (A:=recC g ⟨m,[]⟩ Lr D st' pe ps.toArray asg body::O2) (M:=M2) hs7
     have hput:HR ρ2 B OB (h3.put j (.lp e0 xo ps asg body)) (recC g ⟨m,[]⟩ Lr D st' pe ps.toArray asg body::O2):=H2.put (.lp (hXX.1 _ _ hi) (hE0.mono hXX.1) hlx hw)
     have hfp:=jC hfr (kz hok _) (.bool b)
     have hdf:(a.put o.dst (.bool b)).defers=a.defers:=hfp.defers
     refine⟨ρ2,hXX,mI L o.dst (.bool b),_,M,ju (hE.mono hXX.1) _ (.bo b),hput,?_,?_,hs8⟩
     ·rw[hdf];exact hM
     ·rw[hdf];exact hfp
    cases x2 with
    |nm=>
     obtain⟨rfl,rfl⟩:=hx1 rfl
     cases ex with
     |normal=>exact⟨_,_,run_endRound none hl3,fin none .ready .on⟩
     |_=>exact hex2.elim
    |rt=>
     obtain⟨rfl,rfl⟩:=hx2 (λh=>by cases h)
     cases ex with
     |ret=>exact⟨_,_,run_endRound (some .ret) hl3,fin (some .ret) .done .rt⟩
     |_=>exact hex2.elim
    |ex i=>
     obtain⟨rfl,rfl⟩:=hx2 (λh=>by cases h)
     cases ex with
     |exit i'=>
      obtain rfl:i=i':=hex2
      exact⟨_,_,run_endRound (some (.exit i)) hl3,fin (some (.exit i)) .done (.ex i)⟩
     |_=>exact hex2.elim
   |_=>exact hex.elim
theorem fW{d:Option Nat}{x:Option AV}{q:Tr×Hp}(hm:rq d e h x=some q): ∃a k,x=some a/\d=some k/\q=(e.put k a,h):=by
 obtain⟨a,ha,hm⟩:=ah hm
 obtain⟨k,hk,hm⟩:=ah hm
 cases hm
 exact⟨a,k,ha,hk,rfl⟩
theorem oH{d:Option Nat}{x:Option (AV×Hp)}{q:Tr×Hp}(hm:BW d e x=some q): ∃p,x=some p/\q=(eH e d p.1,p.2):=by
 obtain⟨p,hp,hm⟩:=ah hm
 cases hm
 exact⟨p,hp,rfl⟩
theorem zp{v:Value}{d:Nat}(hv:VR ρ r v)(hE:ER ρ e L)(H:HR ρ B OB h O)(hd:o.dst=some d)(hn:Nat.blt d n.n=true)(hr:Rd P o L R O v):OpW P n o L R (O++F) (eG ρ h.nx h.nx (e.put d r) B OB h R F):=
 OpW.rd hd hn (λσ w hσ hR hO=>hr σ w hσ hR λc hc=>hO c (List.mem_append_left _ hc)) ⟨rfl,ρ,O,Ext.refl ..,hE.put hv,H,rfl⟩
theorem Am(hX:gB X R)(hrc:kQ X R rc){y:Bool}{l:List AV}{f:AV}{q:AV×Hp}(hm:wT X rc y B h l f=some q)(hy: ∀j,f≠ .yl j):h.nx<=q.2.nx:=by
 unfold wT at hm
 split at hm
 ·exact(kF hX hrc hm).1
 ·exact absurd rfl (hy _)
 ·cases hm
theorem zN(hX:gB X R)(hrc:kQ X R rc){name:String}{l:List AV}{f:AV}{q:AV×Hp}(hm:xC X rc B h name l f=some q):h.nx<=q.2.nx:=by
 unfold xC at hm
 split at hm
 ·obtain⟨m,_,hm⟩:=ah hm
  obtain⟨b,_,hm⟩:=ah hm
  exact(kF hX hrc hm).1
 ·cases hm
theorem D8{f:RC->Bool->Tr->Bs->Hp->Option (AV×Hp)}{op:Op}(hf:xo X op= .c f):(∃x args ts,op= .call {callee:=.value x,args:=args,argTypes:=ts}/\f=λrc y e B h=>bnd (iO (opv e) args.toList) λl=>bnd (opv e x) (wT X rc y B h l))∨ ∃x name args ts,op= .call {callee:=.invoke x name,args:=args,argTypes:=ts}/\f=λrc _ e B h=>bnd (iO (opv e) args.toList) λl=>bnd (opv e x) (xC X rc B h name l):=by
 cases op<;>try (cases hf;done)
 case call c=>
  obtain⟨callee,args,ts⟩:=c
  cases callee with
  |value x=>cases hf;exact .inl ⟨_,_,_,rfl,rfl⟩
  |invoke x name=>cases hf;exact .inr ⟨_,_,_,_,rfl,rfl⟩
  |builtin b=>
   have hf:xoB X b args.toList ts.toList= .c f:=hf
   unfold xoB at hf
   split at hf<;>first|(cases hf;done)|skip
   unfold tD at hf
   split at hf<;>cases hf
 case slice t x lo hi mx=>cases mx<;>cases hf
 case typeAssert x u t c=>cases c<;>cases hf
 case makeFunc fn fs cs=>cases fn<;>cases hf
 case makeMap t rs=>cases rs<;>cases hf
 case convert s d y=>
  have hf:xoV X.P s d y= .c f:=hf
  unfold xoV at hf
  split at hf<;>cases hf
def isY(e:Tr)(op:Op)(x:Operand)(args:Array Operand)(ts:Array TypeId)(l:List AV)(j:Nat):Prop:=op= .call {callee:=.value x,args:=args,argTypes:=ts}/\iO (opv e) args.toList=some l/\opv e x=some (.yl j)
theorem Ea(hX:gB X R)(hrc:kQ X R rc){y:Bool}{k:Nat}{q:Tr×Hp}(hok:oP k o=true)(hm:yk X rc y o.dst (xo X o.op) e B h=some q):
 (y=true/\ ∃x args ts l j a,isY e o.op x args ts l j/\bnd (h.take B j) (nI rc j l B)=some a/\q=(eH e o.dst a.1,a.2))∨
 (h.nx<=q.2.nx/\ ∀(ρ:Rho) (OB O F:List Own) (L:Env) (ds:List Deferred),ER ρ e L->HR ρ B OB h O->Nw ρ h.nx q.2.nx->OpW X.P ⟨k,ds⟩ o L R (O++F) (eG ρ h.nx q.2.nx q.1 B OB q.2 R F)):=by
 generalize hx:xo X o.op=x at hm
 cases x with
 |p f=>
  obtain⟨a,d,ha,hd,rfl⟩:=fW (show rq o.dst e h (f e)=some q from hm)
  refine .inr ⟨Nat.le_refl _,λρ OB O F L ds hE H hN=>?_⟩
  obtain⟨v,hv,hr⟩:=Oi (R:=R) (O:=O) hX.q hx hE ha
  exact zp hv hE H hd (kz hok ds d hd) hr
 |l t x=>
  obtain⟨a,d,ha,hd,rfl⟩:=fW (show rq o.dst e h (ldA X e B h t x)=some q from hm)
  refine .inr ⟨Nat.le_refl _,λρ OB O F L ds hE H hN=>?_⟩
  obtain⟨v,hv,hr⟩:=MS hx hX.g hE H ha
  exact zp hv hE H hd (kz hok ds d hd) hr
 |r f=>
  obtain⟨a,d,ha,hd,rfl⟩:=fW (show rq o.dst e h (f e B h)=some q from hm)
  refine .inr ⟨Nat.le_refl _,λρ OB O F L ds hE H hN=>?_⟩
  obtain⟨v,hv,hr⟩:=Oj (R:=R) hx hE H ha
  exact zp hv hE H hd (kz hok ds d hd) hr
 |w f=>
  obtain⟨p,hp,rfl⟩:=oH (show BW o.dst e (f e B h)=some q from hm)
  exact .inr ⟨Ob hx hp,λρ OB O F L ds hE H hN=>(SE hx hE H hp hN hok).1⟩
 |c f=>
  obtain⟨p,hp,rfl⟩:=oH (show BW o.dst e (f rc y e B h)=some q from hm)
  rcases D8 hx with⟨x,args,ts,hop,rfl⟩|⟨x,name,args,ts,hop,rfl⟩
  ·obtain⟨l,hl,hp⟩:=ah hp
   obtain⟨v,hv,hp⟩:=ah hp
   by_cases hy: ∃j,v= .yl j
   ·obtain⟨j,rfl⟩:=hy
    obtain⟨hy,hp⟩:=aI (show ifb y (bnd (h.take B j) (nI rc j l B)) none=some p from hp)
    exact .inl ⟨hy,x,args,ts,l,j,p,⟨hop,hl,hv⟩,hp,rfl⟩
   ·have hy: ∀j,v≠ .yl j:=λj hj=>hy ⟨j,hj⟩
    exact .inr ⟨Am hX hrc hp hy,λρ OB O F L ds hE H hN=>HV hX hrc hE H hl hv hp hy hN (by simpa using hop) (kz hok ds)⟩
  ·obtain⟨l,hl,hp⟩:=ah hp
   obtain⟨v,hv,hp⟩:=ah hp
   exact .inr ⟨zN hX hrc hp,λρ OB O F L ds hE H hN=>H4 hX hrc hE H hl hv hp hN (by simpa using hop) (kz hok ds)⟩
 |bad=>cases hm
end
end Go.Ex
namespace Go.Ex
open Go Go.SL
section
variable{ρ:Rho}{X:Fx}{P:Program}{n:Sz}{o:Oper}{L:Env}{R:List RO}{O F:List Own}{e:Tr}{r:AV}{B:Bs}{OB:List Own}{h h':Hp}{rc:RC}{ops:Array Oper}{k:Nat}
theorem uF(hok:oP k o=true): ∀c,o.op≠ .defer c:=λc hc=>by
 obtain⟨_,h2⟩:=bZ hok
 unfold Jw at h2
 rw[hc] at h2
 cases h2
theorem Ln(hX:gB X R)(hrc:kQ X R rc){y:Bool}{ro:Option Nat}(hy:y=true->ro=none){q:Tr×Hp}(hok:oP k o=true)(hm:yk X rc y o.dst (xo X o.op) e B h=some q):
 h.nx<=q.2.nx/\ ∀(ρ:Rho) (OB F:List Own) (a:Act) (w:World) (Q:Exit->Act->World->Prop),Nw ρ h.nx q.2.nx->St k ρ e B OB h R F a w->
  o.wpIn (fw ro) 0 X.P a w (λa' w'=> ∃ρ',Ext ρ ρ' h.nx q.2.nx/\St k ρ' q.1 B OB q.2 R F a' w') Q:=by
 rcases Ea hX hrc hok hm with⟨rfl,x,args,ts,l,j,a,⟨hop,hl,hv⟩,hp,rfl⟩|⟨hle,hw⟩
 ·obtain rfl:=hy rfl
  exact JV hX hrc hl hv hp (by simpa using hop) hok
 ·refine⟨hle,λρ OB F a w Q hN hst=>?_⟩
  obtain⟨L,O,M,hE,H,hM,hfr,hs⟩:=hst
  refine Oper.wpIn_mono (λa' w' hq=>?_) (zW (uF hok) (hw ρ OB O (M++F) L a.defers hE H hN a w hfr hs Q))
  obtain⟨L',R',O',⟨rfl,ρ',O1,hXt,hE',H',rfl⟩,hfr',hs'⟩:=hq
  have hd:a'.defers=a.defers:=hfr'.defers
  exact⟨ρ',hXt,L',O1,M,hE',H',by rw[hd];exact hM,by rw[hd];exact hfr',hs'⟩
theorem Bg{b c:Bool}{a:AV}(h:B3 b a=some c):(∃d,a= .bo d/\c=(d==b))∨((∃l,a= .tu l)/\c=false):=by
 unfold B3 at h
 split at h
 ·rename_i d
  refine .inl ⟨d,rfl,?_⟩
  cases d<;>cases b<;>(have h:some _=some c:=h;cases h;rfl)
 ·cases h;exact .inr ⟨⟨_,rfl⟩,rfl⟩
 ·cases h
theorem sS{g:Option (Nat×Bool)}{wb:Bool}(hg:gdO ops o.guard=some g)(hw:sc g e=some wb)(hE:ER ρ e L){a:Act}(hf:Fr n L a):Region.wanted o (yielded ops a.tmps)=wb:=by
 unfold Region.wanted
 cases ho:o.guard with
 |none=>
  rw[ho] at hg
  cases hg
  cases hw
  rfl
 |some jb=>
  obtain⟨j,b⟩:=jb
  rw[ho] at hg
  obtain⟨oj,hoj,hg⟩:=ah hg
  obtain⟨d,hd,hg⟩:=ah hg
  cases hg
  obtain⟨u,hu,hw⟩:=ah hw
  obtain⟨v,hv,hfd⟩:=hE d u hu
  have hget:=hf.get d v hfd
  have hj:(ops[j]?).bind (·.dst)=some d:=by rw[hoj];exact hd
  rw[Array.getD_eq_getD_getElem?] at hget
  rcases Bg hw with⟨c,rfl,rfl⟩|⟨⟨l,rfl⟩,rfl⟩
  ·cases hv
   have:a.tmps[d]? =some (.bool c):=by
    cases ht:a.tmps[d]? with
    |none=>rw[ht] at hget;cases hget
    |some z=>rw[ht] at hget;exact congrArg some hget
   simp[yielded,hj,this]
  ·cases hv with
   |tu hl=>
    cases ht:a.tmps[d]? with
    |none=>simp[yielded,hj,ht]
    |some z=>
     rw[ht] at hget
     have hget:z=_:=hget
     subst hget
     simp[yielded,hj,ht]
theorem sP(hn:gdO ops o.guard=none):xop X ops o=⟨none,none,.bad⟩:=by unfold xop;rw[hn]
theorem kg{g:Option (Nat×Bool)}(hg:gdO ops o.guard=some g):xop X ops o=⟨g,o.dst,xo X o.op⟩:=by unfold xop;rw[hg]
theorem DT(hX:gB X R)(hrc:kQ X R rc){y:Bool}{ro:Option Nat}(hy:y=true->ro=none): ∀(rest:List Oper) {e:Tr} {h:Hp} {q:Tr×Hp},(∀o∈rest,oP k o=true)->FV X rc y B (y3 (xop X ops) rest) e h=some q->
 h.nx<=q.2.nx/\ ∀(ρ:Rho) (OB F:List Own) (a:Act) (w:World) (Q:Exit->Act->World->Prop),Nw ρ h.nx q.2.nx->St k ρ e B OB h R F a w->
  (∀ρ' a' w',Ext ρ ρ' h.nx q.2.nx->St k ρ' q.1 B OB q.2 R F a' w'->Q .normal a' w')->wpListIn (fw ro) 0 X.P ops Q rest a w
 | [],e,h,q,_,hm=>by
   have hm:some (e,h)=some q:=hm
   cases hm
   exact⟨Nat.le_refl _,λρ OB F a w Q _ hst hk=>wpListIn_nil (hk ρ a w (Ext.refl ..) hst)⟩
 |o::rest,e,h,q,hok,hm=>by
  have hm:bnd (sc (xop X ops o).g e) (λw=>bnd (stL X rc y (xop X ops o) e B h w) λq=>FV X rc y B (y3 (xop X ops) rest) q.1 q.2)=some q:=hm
  obtain⟨wb,hwb,hm⟩:=ah hm
  obtain⟨q1,hq1,hm⟩:=ah hm
  cases hg:gdO ops o.guard with
  |none=>
   rw[sP hg] at hwb hq1
   cases hwb
   cases hq1
  |some g=>
   rw[kg hg] at hwb hq1
   obtain⟨hle2,hk2⟩:=DT hX hrc hy rest (λo ho=>hok o (List.mem_cons_of_mem _ ho)) hm
   have hok1:=hok o List.mem_cons_self
   cases wb with
   |true=>
    obtain⟨hle1,hk1⟩:=Ln hX hrc hy hok1 (show yk X rc y o.dst (xo X o.op) e B h=some q1 from hq1)
    refine⟨Nat.le_trans hle1 hle2,λρ OB F a w Q hN hst hk=>?_⟩
    have hst':=hst
    obtain⟨L,O,M,hE,H,hM,hfr,hs⟩:=hst
    unfold wpListIn
    rw[if_pos (sS hg hwb hE hfr)]
    refine Oper.wpIn_mono (λa' w' hq=>?_) (hk1 ρ OB F a w Q (hN.sub (Nat.le_refl _) hle2) hst')
    obtain⟨ρ',hX',hst1⟩:=hq
    exact hk2 ρ' OB F a' w' Q ((hN.sub hle1 (Nat.le_refl _)).ext hX' (.inl (Nat.le_refl _))) hst1 λρ2 a2 w2 hX2 hst2=>hk ρ2 a2 w2 (Ext.trans hle1 hle2 hX' hX2) hst2
   |false=>
    have hq1:some (eH e o.dst (.tu []),h)=some q1:=hq1
    cases hq1
    refine⟨hle2,λρ OB F a w Q hN hst hk=>?_⟩
    obtain⟨L,O,M,hE,H,hM,hfr,hs⟩:=hst
    unfold wpListIn
    have hnw:=sS hg hwb hE hfr
    rw[if_neg (by rw[hnw];exact Bool.false_ne_true)]
    have hfp:=jC hfr (kz hok1 a.defers) undef
    have hdf:(a.put o.dst undef).defers=a.defers:=hfp.defers
    exact⟨λ_ _=>trivial,hk2 ρ OB F _ w Q hN ⟨mI L o.dst undef,O,M,ju hE _ (.tu .nil),H,by rw[hdf];exact hM,by rw[hdf];exact hfp,hs⟩ hk⟩
end
end Go.Ex
namespace Go.Ex
open Go Go.SL
def kM(O O':List Own):Prop:= ∃X,O.Perm (X++O')
theorem kM.refl(O:List Own):kM O O:=⟨[],List.Perm.refl _⟩
theorem ls{R:List RO}{O:List Own}{w:World}: ∀{X:List Own},Sat R (X++O) w->Sat R O w
 | [],h=>h
 |_::X,h=>ls (X:=X) h.drop
theorem kM.sat{O O':List Own}(h:kM O O'){R:List RO}{F:List Own}{w:World}(hs:Sat R (O++F) w):Sat R (O'++F) w:=by
 obtain⟨X,hX⟩:=h
 have:=hs.perm (hX.append_right F)
 rw[List.append_assoc] at this
 exact ls this
theorem kM.app{A A' C C':List Own}(h:kM A A')(h':kM C C'):kM (A++C) (A'++C'):=by
 obtain⟨X,hX⟩:=h
 obtain⟨Y,hY⟩:=h'
 refine⟨X++Y,(hX.append hY).trans ?_⟩
 rw[List.append_assoc,List.append_assoc]
 refine List.Perm.append_left X ?_
 rw[←List.append_assoc,←List.append_assoc]
 exact List.Perm.append_right C' List.perm_append_comm
theorem kM.take{c:Own}{O O1 O':List Own}(hT:Take c O O1)(h:kM O1 O'):kM O (c::O'):=by
 obtain⟨X,hX⟩:=h
 exact⟨X,hT.perm.trans ((List.Perm.cons c hX).trans List.perm_middle.symm)⟩
theorem kM.nil(O:List Own):kM O []:=⟨O,by rw[List.append_nil]⟩
theorem kM.vC{O O':List Own}(h:List.Sublist O' O):kM O O':=by
 induction h with
 |slnil=>exact .refl _
 |cons a h ih=>
  obtain⟨X,hX⟩:=ih
  exact⟨a::X,List.Perm.cons a hX⟩
 |cons_cons a h ih=>exact .take (.head _) ih
theorem kM.trans{O O1 O2:List Own}(h:kM O O1)(h':kM O1 O2):kM O O2:=by
 obtain⟨X,hX⟩:=h
 obtain⟨Y,hY⟩:=h'
 refine⟨X++Y,hX.trans ?_⟩
 rw[List.append_assoc]
 exact List.Perm.append_left X hY
theorem eD{a b:Nat}(h:Nat.beq a b=true):a=b:=Nat.eq_of_beq_eq_true h
mutual
theorem qu: ∀{a b:AV},Cq a b=true->a=b
 | .bo a,.bo b,h=>by have h:(a==b)=true:=h;rw[eq_of_beq h]
 | .it k a,.it l b,h=>by obtain⟨h1,h2⟩:=bZ h;rw[pb h1,of_decide_eq_true h2]
 | .st a,.st b,h=>by have h:lJ a b=true:=h;rw[lh] at h;rw[of_decide_eq_true h]
 | .np,.np,_=>rfl
 | .ns,.ns,_=>rfl
 | .nm,.nm,_=>rfl
 | .nf,.nf,_=>rfl
 | .ni,.ni,_=>rfl
 | .es,.es,_=>rfl
 | .pt i a,.pt j b,h=>by obtain⟨h1,h2⟩:=bZ h;rw[eD h1,eD h2]
 | .pe i a,.pe j b,h=>by obtain⟨h1,h2⟩:=bZ h;rw[eD h1,eD h2]
 | .gp i a,.gp j b,h=>by obtain⟨h1,h2⟩:=bZ h;rw[eD h1,eD h2]
 | .sl i a b c,.sl j d e f,h=>by obtain⟨h,h4⟩:=bZ h;obtain⟨h,h3⟩:=bZ h;obtain⟨h1,h2⟩:=bZ h;rw[eD h1,eD h2,eD h3,eD h4]
 | .ac i a b,.ac j d e,h=>by obtain⟨h,h3⟩:=bZ h;obtain⟨h1,h2⟩:=bZ h;rw[eD h1,eD h2,eD h3]
 | .mp i,.mp j,h=>by have h:Nat.beq i j=true:=h;rw[eD h]
 | .fn f a c,.fn g b d,h=>by obtain⟨h,h3⟩:=bZ h;obtain⟨h1,h2⟩:=bZ h;rw[eD h1,jD h2,jD h3]
 | .ic t a,.ic u b,h=>by obtain⟨h1,h2⟩:=bZ h;rw[eD h1,qu h2]
 | .ag a,.ag b,h=>by have h:nR a b=true:=h;rw[jD h]
 | .tu a,.tu b,h=>by have h:nR a b=true:=h;rw[jD h]
theorem jD: ∀{a b:List AV},nR a b=true->a=b
 | [],[],_=>rfl
 |a::x,b::y,h=>by obtain⟨h1,h2⟩:=bZ h;rw[qu h1,jD h2]
end
theorem Bw: ∀{a b:List (AV×AV×Nat)},Kc a b=true->a=b
 | [],[],_=>rfl
 |(a1,a2,a3)::x,(b1,b2,b3)::y,h=>by
  obtain⟨h,h4⟩:=bZ h
  obtain⟨h,h3⟩:=bZ h
  obtain⟨h1,h2⟩:=bZ h
  rw[Bw h4]
  have e1:a1=b1:=qu h1
  have e2:a2=b2:=qu h2
  have e3:a3=b3:=eD h3
  rw[e1,e2,e3]
theorem Lj: ∀{a b:Ch},Ry a b=true->a=b
 | .row t a,.row u b,h=>by obtain⟨h1,h2⟩:=bZ h;rw[eD h1,jD h2]
 | .acc t s a,.acc u r b,h=>by obtain⟨h,h3⟩:=bZ h;obtain⟨h1,h2⟩:=bZ h;rw[eD h1,eD h2,jD h3]
 | .byt t a,.byt u b,h=>by obtain⟨h1,h2⟩:=bZ h;rw[lh] at h2;rw[eD h1,of_decide_eq_true h2]
 | .byc t a,.byc u b,h=>by obtain⟨h1,h2⟩:=bZ h;rw[eD h1,jD h2]
 | .map k a c,.map l b d,h=>by obtain⟨h,h3⟩:=bZ h;obtain⟨h1,h2⟩:=bZ h;rw[D9 (eD h1),Bw h2,eD h3]
 | .sit a c,.sit b d,h=>by obtain⟨h1,h2⟩:=bZ h;rw[lh] at h1;rw[of_decide_eq_true h1,eD h2]
 | .mit a b c,.mit d e f,h=>by obtain⟨h,h3⟩:=bZ h;obtain⟨h1,h2⟩:=bZ h;rw[lh] at h3;rw[eD h1,eD h2,of_decide_eq_true h3]
theorem zS{v u:Option AV}(h:vLe v u=true){a:AV}(ha:v=some a):u=some a:=by
 subst ha
 unfold vLe at h
 cases u with
 |none=>cases h
 |some b=>rw[qu (show Cq a b=true from h)]
theorem mg: ∀{t u:Tr} {k:Nat} {a:AV},t.le u=true->t.get k=some a->u.get k=some a
 | .z,_,_,_,_,h=>by cases h
 | .nd l v r,.nd l' v' r',k,a,hle,h=>by
   obtain⟨hle,h3⟩:=bZ (show(l.le l'&&r.le r'&&vLe v v')=true from hle)
   obtain⟨h1,h2⟩:=bZ hle
   cases k with
   |zero=>exact zS h3 h
   |succ k=>
    rw[gI] at h⊢
    rw[bA] at h⊢
    split
    ·rename_i hk;rw[if_pos hk] at h;exact mg h1 h
    ·rename_i hk;rw[if_neg hk] at h;exact mg h2 h
 | .nd l v r,.z,k,a,hle,h=>by
   obtain⟨hle,h3⟩:=bZ (show(l.le .z&&r.le .z&&vLe v none)=true from hle)
   obtain⟨h1,h2⟩:=bZ hle
   cases k with
   |zero=>exact zS h3 h
   |succ k=>
    rw[gI,bA] at h
    split at h
    ·have:=mg h1 h;cases this
    ·have:=mg h2 h;cases this
section
variable{ρ:Rho}{R:List RO}{O F:List Own}{e e':Tr}{L:Env}{B:Bs}{OB:List Own}{h h':Hp}
theorem ER.le(hE:ER ρ e L)(hle:e'.le e=true):ER ρ e' L:=λt a ht=>hE t a (mg hle ht)
theorem An: ∀{l m:Bs} {O:List Own},Ed l m=true->LR ρ m O-> ∃O',LR ρ l O'/\kM O O'
 | [],_,O,_,_=>⟨[],.nil,.nil _⟩
 |q::r,m,O,hle,hL=>by
  obtain⟨i,c⟩:=q
  unfold Ed at hle
  split at hle
  ·rename_i p hp
   obtain⟨h1,h2⟩:=bZ hle
   obtain⟨c',m'⟩:=p
   obtain⟨o,O1,hT,hC,hL1⟩:=hL.tk hp
   obtain⟨O',hL2,hW⟩:=An h2 hL1
   have hcc:c=c':=Lj h1
   subst hcc
   exact⟨o::O',.cons hC hL2,.take hT hW⟩
  ·cases hle
theorem Bz{i:Nat}: ∀{l s:List Nat},rmN i l=some s->l.Perm (i::s)
 | [],_,h=>by cases h
 |j::r,s,h=>by
  have h:ifb (Nat.beq j i) (some r) (bnd (rmN i r) λs=>some (j::s))=some s:=h
  rcases cH h with⟨h1,h2⟩|⟨_,h2⟩
  ·cases h2;rw[eD h1]
  ·obtain⟨s',hs',h2⟩:=ah h2
   cases h2
   exact(List.Perm.cons j (Bz hs')).trans (List.Perm.swap ..)
theorem so: ∀{t l:List Nat},yh t l=true-> ∃s,l.Perm (t++s)
 | [],l,_=>⟨l,List.Perm.refl _⟩
 |i::r,l,h=>by
  unfold yh at h
  split at h
  ·rename_i s hs
   obtain⟨u,hu⟩:=so h
   exact⟨u,(Bz hs).trans (List.Perm.cons i hu)⟩
  ·cases h
theorem nb{t t':List Nat}(h:t.Perm t'): ∀(l:Bs) (O:List Own),gq t l=gq t' l/\dF t l O=dF t' l O:=by
 induction h with
 |nil=>exact λ_ _=>⟨rfl,rfl⟩
 |cons i _ ih=>exact λl O=>ih _ _
 |swap i j t=>
  intro l O
  simp only[gq,dF]
  rw[vo,rr]
  exact⟨rfl,rfl⟩
 |trans _ _ h1 h2=>exact λl O=>⟨(h1 l O).1.trans (h2 l O).1,(h1 l O).2.trans (h2 l O).2⟩
theorem jR: ∀(t s:List Nat) (l:Bs) (O:List Own),gq (t++s) l=gq s (gq t l)/\dF (t++s) l O=dF s (gq t l) (dF t l O)
 | [],_,_,_=>⟨rfl,rfl⟩
 |i::t,s,l,O=>jR t s (rmv l i) (gT l O i)
theorem tt(i:Nat): ∀(l:Bs) (O:List Own),List.Sublist (gT l O i) O
 | [],O=>by
   have:gT [] O i=[]:=by cases O<;>rfl
   rw[this];exact List.nil_sublist _
 |_::_,[]=>List.Sublist.refl _
 |q::r,o::O=>by
  rw[fV,bA]
  split
  ·exact List.sublist_cons_self o O
  ·exact(tt i r O).cons_cons o
theorem wB: ∀(t:List Nat) (l:Bs) (O:List Own),List.Sublist (dF t l O) O
 | [],_,O=>List.Sublist.refl O
 |i::t,l,O=>(wB t (rmv l i) (gT l O i)).trans (tt i l O)
theorem HR.le(H:HR ρ B OB h O)(hle:h'.le h=true): ∃O',HR ρ B OB h' O'/\kM O O':=by
 obtain⟨hB,Oc,hC,rfl⟩:=H
 obtain⟨h1,h2⟩:=bZ hle
 obtain⟨Oc',hC',hW⟩:=An h1 hC
 obtain⟨s,hs⟩:=so h2
 refine⟨Oc'++dF h'.ff B OB,⟨hB,Oc',hC',rfl⟩,hW.app (.vC ?_)⟩
 rw[(nb hs B OB).2,(jR h.ff s B OB).2]
 exact wB ..
theorem Es(i:Nat): ∀{A:Bs} {OA:List Own} (_:LR ρ A OA) (C:Bs) (OC:List Own),
 (rmv (A++C) i=rmv A i++C/\gT (A++C) (OA++OC) i=gT A OA i++OC)∨(rmv A i=A/\gT A OA i=OA/\rmv (A++C) i=A++rmv C i/\gT (A++C) (OA++OC) i=OA++gT C OC i)
 |_,_,.nil,C,OC=>.inr ⟨rfl,rfl,rfl,rfl⟩
 |_,_,.cons (i:=j) (c:=c) (o:=o) (l:=l) (O:=O) h hr,C,OC=>by
  simp only[List.cons_append,gx,fV,bA]
  by_cases h1:Nat.beq j i=true
  ·left;rw[if_pos h1,if_pos h1,if_pos h1,if_pos h1];exact⟨rfl,rfl⟩
  ·rw[if_neg h1,if_neg h1,if_neg h1,if_neg h1]
   rcases Es i hr C OC with⟨h2,h3⟩|⟨h2,h3,h4,h5⟩
   ·left;rw[h2,h3];exact⟨rfl,rfl⟩
   ·right;rw[h2,h3,h4,h5];exact⟨rfl,rfl,rfl,rfl⟩
theorem BR(t:List Nat)(i:Nat)(C:Bs)(OC:List Own):List.Sublist (dF t (rmv C i) (gT C OC i)) (dF t C OC):=by
 have h1:dF t (rmv C i) (gT C OC i)=dF (i::t) C OC:=rfl
 have h2:(i::t).Perm (t++[i]):=(List.perm_append_singleton i t).symm
 rw[h1,(nb h2 C OC).2,(jR t [i] C OC).2]
 exact tt ..
theorem qO: ∀(t:List Nat) {A:Bs} {OA:List Own} (_:LR ρ A OA) (C:Bs) (OC:List Own),List.Sublist (dF t A OA++dF t C OC) (dF t (A++C) (OA++OC))
 | [],_,_,_,_,_=>List.Sublist.refl _
 |i::t,A,OA,hA,C,OC=>by
  simp only[dF]
  rcases Es i hA C OC with⟨h1,h2⟩|⟨h1,h2,h3,h4⟩
  ·rw[h1,h2]
   exact((List.Sublist.refl _).append (BR t i C OC)).trans (qO t (hA.gT i) C OC)
  ·rw[h1,h2,h3,h4]
   exact qO t hA (rmv C i) (gT C OC i)
theorem HR.over{ρ':Rho}{O2:List Own}{g:Hp}(H:HR ρ B OB h O)(hρ:ρ.le ρ')(G:HR ρ' (h.flat B) O g O2)(nx:Nat): ∃O3,HR ρ' B OB (h.over nx g) O3/\kM O2 O3:=by
 obtain⟨hB,Oc,hC,rfl⟩:=H
 obtain⟨_,Oc2,hC2,rfl⟩:=G
 refine⟨(Oc2++dF g.ff h.cur Oc)++dF (g.ff++h.ff) B OB,⟨hB.mono hρ,Oc2++dF g.ff h.cur Oc,?_,?_⟩,?_⟩
 ·show LR ρ' (app g.cur (gq g.ff h.cur)) _
  rw[fp]
  exact hC2.app (hC.mono hρ).dF
 ·show _=_++dF (app g.ff h.ff) B OB
  rw[fp]
 ·rw[List.append_assoc]
  refine(kM.refl Oc2).app (.vC ?_)
  rw[EJ,(nb List.perm_append_comm B OB).2,(jR h.ff g.ff B OB).2]
  exact qO g.ff hC _ _
end
end Go.Ex
namespace Go.Ex
open Go Go.SL
section
variable{P:Program}{ops:Array Oper}{Q:Exit->Act->World->Prop}{md:Region.Mode}{S:Array Bool->World->Prop}
theorem wh{E:Array Bool->Prop}{i:Nat}{oi:Oper}{v:Value}(hi:ops[i]? =some oi)(hsel: ∀(j:Nat) (o:Oper) cs b,ops[j]? =some o->o.op≠ .select cs b)
 (hQ: ∀c a w,Q (.panic c) (a.put oi.dst v) w->Q (.panic c) a w)
 (hmono: ∀l w,S l w->S (l.setIfInBounds i true) w) (hback: ∀l w,S (l.setIfInBounds i true) w->S l w)
 (hstep: ∀(l:Array Bool) (j:Nat),E l->j∈Region.ready md ops l->j≠i->E (l.setIfInBounds j true)):
 ∀(fuel:Nat) (listed:Array Bool) (a:Act) (w:World),
  (∀j oj,ops[j]? =some oj->j≠i->listed.getD j true=false->(∀e∈oj.after,Region.binds md e=true->e.on≠i)->oi.apart ops oj=true)->
  i∈Region.ready md ops listed->E listed->YieldsIf P ops (λw=> ∃l,E l/\S l w) oi v a->S listed w->
  Go.SL.wpAnyL P md ops Q S fuel (listed.setIfInBounds i true) (a.put oi.dst v) w->Go.SL.wpAnyL P md ops Q S (fuel+1) listed a w:=by
 intro fuel
 induction fuel with
 |zero=>
  intro listed a w _ hr hE hy hS H
  refine⟨λh=>(by rw[h] at hr;cases hr),λj hj=>?_⟩
  by_cases hji:j=i
  ·subst hji;exact hy.wpOp hi ⟨listed,hE,hS⟩ ⟨hmono _ _ hS,H⟩
  ·have:=ready_mono hj hji
   rw[H.1] at this
   cases this
 |succ fuel ih=>
  intro listed a w hfree hr hE hy hS H
  refine⟨λh=>(by rw[h] at hr;cases hr),λj hj=>?_⟩
  by_cases hji:j=i
  ·subst hji;exact hy.wpOp hi ⟨listed,hE,hS⟩ ⟨hmono _ _ hS,H⟩
  ·have h1:=H.2 j (ready_mono hj hji)
   have hE':=hstep listed j hE hj hji
   obtain⟨hjun,oj,hoj,hall⟩:=mem_ready.1 hj
   have hnot: ∀e∈oj.after,Region.binds md e=true->e.on≠i:=λe he hb heq=>by
    have h1:=hall e he hb
    have h0:=(mem_ready.1 hr).1
    rw[heq] at h1
    rcases Nat.lt_or_ge i listed.size with h'|h'
    ·simp[h'] at h0 h1;rw[h0] at h1;cases h1
    ·simp[Array.getElem?_eq_none h'] at h1
   have h2:=wpOp_putIf hoj (hfree j oj hoj hji hjun hnot) (λcs b=>hsel i oi cs b hi) (λcs b=>hsel j oj cs b hoj) hQ hy h1
   have hfree': ∀k ok,ops[k]? =some ok->k≠i->(listed.setIfInBounds j true).getD k true=false->
    (∀e∈ok.after,Region.binds md e=true->e.on≠i)->oi.apart ops ok=true:=λk ok hk hki hun hno=>by
    refine hfree k ok hk hki ?_ hno
    by_cases hjk:j=k
    ·subst hjk;exact hjun
    ·rw[getD_set_ne true hjk] at hun;exact hun
   refine wpOp_mono (λa' w' h3=>?_) h2
   have hS':S (listed.setIfInBounds j true) w':=hback _ _ (by rw[Array.setIfInBounds_comm _ _ hji];exact h3.2.1)
   refine⟨hS',ih (listed.setIfInBounds j true) a' w' hfree' (ready_mono hr (Ne.symm hji)) hE' h3.1 hS' ?_⟩
   rw[Array.setIfInBounds_comm _ _ hji]
   exact h3.2.2
end
theorem CG(m i:Nat):bit m i=m.testBit i:=by
 show Nat.beq ((m >>> i) &&& 1) 1=_
 rw[Nat.testBit_eq_decide_div_mod_eq,Nat.and_one_is_mod,Nat.shiftRight_eq_div_pow,Bool.eq_iff_iff,Nat.beq_eq,decide_eq_true_eq]
theorem PU(m i j:Nat):bit (Nat.lor m (2^i)) j=(bit m j||decide (i=j)):=by
 rw[CG,CG]
 show(m ||| 2^i).testBit j=_
 rw[Nat.testBit_or,Nat.testBit_two_pow]
theorem J7(i:Nat):bit 0 i=false:=by rw[CG,Nat.zero_testBit]
def Cl(ops:Array Oper)(l:Array Bool):Prop:= ∀(j:Nat) (oj:Oper),ops[j]? =some oj->l.getD j false=true-> ∀e∈oj.after,Region.binds .any e=true->l.getD e.on false=true
theorem lu{l:Array Bool}{i:Nat}(h:i<l.size):(l.setIfInBounds i true).getD i false=true:=by
 simp[h]
theorem J8{l:Array Bool}{i j:Nat}(h:i<l.size):(l.setIfInBounds i true).getD j false=(l.getD j false||decide (i=j)):=by
 by_cases e:i=j
 ·subst e;rw[lu h,decide_eq_true rfl,Bool.or_true]
 ·rw[getD_set_ne false e,decide_eq_false e,Bool.or_false]
theorem Cl.set{ops:Array Oper}{l:Array Bool}(h:Cl ops l){i:Nat}(hi:i∈Region.ready .any ops l):Cl ops (l.setIfInBounds i true):=λj oj hj hl e he hb=>by
 by_cases hij:i=j
 ·subst hij
  obtain⟨_,o,ho,hall⟩:=mem_ready.1 hi
  rw[hj] at ho;cases ho
  exact getD_set_true (hall e he hb)
 ·rw[getD_set_ne false hij] at hl
  exact getD_set_true (h j oj hj hl e he hb)
theorem CX{ops:Array Oper}{l:Array Bool}(h:Cl ops l): ∀(os:List Oper) (j:Nat) (ks:List Nat),(∀m o,os[m]? =some o->ops[j+m]? =some o)->(∀k∈ks,l.getD k false=false)-> ∀k∈qK os j ks,l.getD k false=false
 | [],_,_,_,hks,k,hk=>hks k hk
 |o::os,j,ks,hos,hks,k,hk=>by
  have hk:k∈ifb (o.after.toList.any λ(e:Edge)=>Region.binds .any e&&el ks e.on) (qK os (j+1) (j::ks)) (qK os (j+1) ks):=hk
  have hos': ∀m o,os[m]? =some o->ops[j+1+m]? =some o:=λm o hm=>by
   have:=hos (m+1) o (by simpa using hm)
   rw[show j+1+m=j+(m+1) from by omega]
   exact this
  rw[bA] at hk
  split at hk
  ·rename_i hany
   refine CX h os (j+1) (j::ks) hos' (λq hq=>?_) k hk
   rcases List.mem_cons.1 hq with rfl|hq
   ·obtain⟨e,he,hee⟩:=List.any_eq_true.1 hany
    obtain⟨hb,hel⟩:=bZ hee
    rw[wK] at hel
    have hel:e.on∈ks:=by simpa using hel
    have h0:ops[q]? =some o:=hos 0 o rfl
    cases hl:l.getD q false with
    |false=>rfl
    |true=>
     have:=h q o h0 hl e (Array.mem_toList_iff.1 he) hb
     rw[hks _ hel] at this
     cases this
   ·exact hks q hq
  ·exact CX h os (j+1) ks hos' hks k hk
theorem Bu{m:Nat}: ∀{os:List Oper} {s i:Nat},i∈mD m os s↔ ∃k o,os[k]? =some o/\i=s+k/\bit m i=false/\waits o m=true
 | [],s,i=>by
   constructor
   ·intro h;cases h
   ·rintro⟨k,o,h,_⟩;simp at h
 |o::os,s,i=>by
  have e:mD m (o::os) s=ifb (bit m s) (mD m os (s+1)) (ifb (waits o m) (s::mD m os (s+1)) (mD m os (s+1))):=by
   show ifb (bit m s) (fN (Nat.succ s) (mD m os)) (ifb (waits o m) (s::fN (Nat.succ s) (mD m os)) (fN (Nat.succ s) (mD m os)))=_
   rw[dz]
  have tail:i∈mD m os (s+1)↔ ∃k o',(o::os)[k+1]? =some o'/\i=s+(k+1)/\bit m i=false/\waits o' m=true:=by
   rw[Bu]
   constructor
   ·rintro⟨k,o',h1,h2,h3⟩;exact⟨k,o',by simpa using h1,by omega,h3⟩
   ·rintro⟨k,o',h1,h2,h3⟩;exact⟨k,o',by simpa using h1,by omega,h3⟩
  rw[e,bA,bA]
  constructor
  ·intro h
   split at h
   ·obtain⟨k,o',hx⟩:=tail.1 h;exact⟨k+1,o',hx⟩
   ·rename_i hb
    split at h
    ·rename_i hw
     rcases List.mem_cons.1 h with rfl|h
     ·exact⟨0,o,rfl,rfl,by simpa using hb,hw⟩
     ·obtain⟨k,o',hx⟩:=tail.1 h;exact⟨k+1,o',hx⟩
    ·obtain⟨k,o',hx⟩:=tail.1 h;exact⟨k+1,o',hx⟩
  ·rintro⟨k,o',h1,h2,h3,h4⟩
   cases k with
   |zero=>
    simp at h1
    subst h1
    obtain rfl:i=s:=by omega
    rw[if_neg (by rw[h3];exact Bool.false_ne_true),if_pos h4]
    exact List.mem_cons_self
   |succ k=>
    have:=tail.2 ⟨k,o',h1,h2,h3,h4⟩
    split
    ·exact this
    ·split
     ·exact List.mem_cons_of_mem _ this
     ·exact this
theorem Su{α:Type}{f:α->Bool}{l:List α}:l.all f=true↔ ∀x∈l,f x=true:=List.all_eq_true
theorem FQ{ops:Array Oper}{l:Array Bool}{m:Nat}(hsz:l.size=ops.size)(hb: ∀i,l.getD i false=bit m i)(i:Nat):i∈Region.ready .any ops l↔i∈mD m ops.toList 0:=by
 have hw: ∀o:Oper,waits o m=true↔ ∀e∈o.after,Region.binds .any e=true->l.getD e.on false=true:=λo=>by
  unfold waits
  rw[Su]
  constructor
  ·intro h e he hbe
   have:=h e (Array.mem_toList_iff.2 he)
   rw[bA,if_pos hbe] at this
   rw[hb];exact this
  ·intro h e he
   rw[bA]
   split
   ·rename_i hbe
    have:=h e (Array.mem_toList_iff.1 he) hbe
    rw[hb] at this
    exact this
   ·rfl
 rw[mem_ready,Bu]
 constructor
 ·rintro⟨h1,o,h2,h3⟩
  refine⟨i,o,by simpa using h2,by omega,?_,(hw o).2 h3⟩
  have hlt:i<l.size:=by rw[hsz];exact(Array.getElem?_eq_some_iff.1 h2).1
  rw[←hb]
  simp[hlt] at h1⊢
  exact h1
 ·rintro⟨k,o,h1,h2,h3,h4⟩
  obtain rfl:i=k:=by omega
  have h1:ops[i]? =some o:=by simpa using h1
  have hlt:i<l.size:=by rw[hsz];exact(Array.getElem?_eq_some_iff.1 h1).1
  refine⟨?_,o,h1,(hw o).1 h4⟩
  have:=hb i
  rw[h3] at this
  simp[hlt] at this⊢
  exact this
theorem Im{m:Nat}{ks:List Nat}(h: ∀k∈ks,bit m k=false):tP m ks=false:=by
 cases hb:tP m ks with
 |false=>rfl
 |true=>
  obtain⟨k,hk,h2⟩:=List.any_eq_true.1 hb
  rw[h k hk] at h2;cases h2
theorem yn{α β:Type}(f:α->β): ∀l:List α,y3 f l=l.map f
 | []=>rfl
 |a::r=>by
  show f a::y3 f r=_
  rw[yn f r];rfl
def left(l:Array Bool):Nat:=l.toList.count false
theorem count_set: ∀{l:List Bool} {i:Nat},l[i]? =some false->(l.set i true).count false+1=l.count false
 | [],i,h=>by simp at h
 |b::r,0,h=>by
  simp at h
  subst h
  simp
 |b::r,i+1,h=>by
  have:=count_set (l:=r) (i:=i) (by simpa using h)
  simp only[List.set_cons_succ,List.count_cons]
  omega
theorem Bc{l:Array Bool}{i:Nat}(hi:i<l.size)(h:l.getD i false=false):left (l.setIfInBounds i true)+1=left l:=by
 unfold left
 rw[Array.toList_setIfInBounds]
 refine count_set ?_
 have:l[i]? =some l[i]:=Array.getElem?_eq_getElem hi
 rw[Array.getElem?_toList,this]
 simp[hi] at h
 rw[h]
theorem G7{ops:Array Oper}{l:Array Bool}(h:left l=0):Region.ready .any ops l=[]:=by
 rw[List.eq_nil_iff_forall_not_mem]
 intro i hi
 obtain⟨h1,_⟩:=mem_ready.1 hi
 have hm:false∈l.toList:=by
  cases hl:l[i]? with
  |none=>rw[Array.getD_eq_getD_getElem?,hl] at h1;cases h1
  |some b=>
   rw[Array.getD_eq_getD_getElem?,hl] at h1
   have h1:b=false:=h1
   subst h1
   exact Array.mem_toList_iff.2 (Array.mem_of_getElem? hl)
 have:=List.count_pos_iff.2 hm
 unfold left at h
 omega
theorem ur(n:Nat):left (Array.replicate n false)=n:=by
 unfold left
 rw[Array.toList_replicate,List.count_replicate_self]
end Go.Ex
namespace Go.Ex
open Go Go.SL
def SS(R:List RO)(rx:XR)(U:Us)(Bf:Bs)(O0:List Own)(l:Array Bool)(w:World):Prop:=
 (∀p∈R,p w)/\(rx.simple=true->(∀k∈rx.ws,l.getD k false=false)-> ∀o∈O0,o.pred w)/\ ∀u∈U,(∀k∈u.2.1,l.getD k false=false)-> ∀o,oN Bf O0 u.2.2.1=some o->o.pred w
def NR(k:Nat)(ds:List Deferred)(ρ0:Rho)(R:List RO)(ops:Array Oper)(rx:XR)(U:Us)(Bf:Bs)(O0 F:List Own)(S:Sp)(nd:Nd)(l:Array Bool)(a:Act)(w:World):Prop:=
 l.size=ops.size/\(∀i,l.getD i false=bit nd.li i)/\Cl ops l/\SS R rx U Bf O0 l w/\
 ∃ρ L O,Ext ρ0 ρ S.nx (S.nx+ops.size*S.s)/\(∀i,i<ops.size->l.getD i false=false->Nw ρ (S.nx+i*S.s) (S.nx+i*S.s+S.s))/\ER ρ nd.e L/\HR ρ Bf O0 nd.h O/\Fr ⟨k,ds⟩ L a/\Sat R (O++F) w
def UOk(ops:Array Oper)(rx:XR)(U:Us):Prop:= ∀u∈U,u.2.1=behind ops.toList rx.xs u.1
section
variable{ρ0:Rho}{X:Fx}{o:Oper}{R:List RO}{O0 F:List Own}{e:Tr}{Bf:Bs}{rc:RC}{ops:Array Oper}{k:Nat}{ds:List Deferred}{U:Us}{S:Sp}{nd nd':Nd}{l:Array Bool}{a:Act}{w:World}{i:Nat}{rx:XR}
theorem ka{j:Nat}(h:(l.setIfInBounds i true).getD j false=false):l.getD j false=false:=by
 cases hl:l.getD j false with
 |false=>rfl
 |true=>rw[getD_set_true hl] at h;cases h
theorem SS.mono(h:SS R rx U Bf O0 l w)(i:Nat):SS R rx U Bf O0 (l.setIfInBounds i true) w:=
 ⟨h.1,λhs hk=>h.2.1 hs λk hkw=>ka (hk k hkw),λu hu hk=>h.2.2 u hu λk hkw=>ka (hk k hkw)⟩
theorem RD(h:rx=xr X ops){j:Nat}(hj:j∈rx.ws):we rx.xs j=true:=by
 subst h
 exact(List.mem_filter.1 hj).2
theorem Ha{j:Nat}(hj:j∈behind ops.toList rx.xs i):we rx.xs j=true:=(List.mem_filter.1 hj).2
theorem SS.back(hx:rx=xr X ops)(hU:UOk ops rx U)(hi:we rx.xs i=false)(h:SS R rx U Bf O0 (l.setIfInBounds i true) w):SS R rx U Bf O0 l w:=by
 have key: ∀j,we rx.xs j=true->l.getD j false=false->(l.setIfInBounds i true).getD j false=false:=λj hj hl=>by
  rw[getD_set_ne false (λe=>by subst e;rw[hi] at hj;cases hj)];exact hl
 refine⟨h.1,λhs hk=>h.2.1 hs λk hkw=>key k (RD hx hkw) (hk k hkw),λu hu hk=>h.2.2 u hu λk hkw=>key k ?_ (hk k hkw)⟩
 rw[hU u hu] at hkw
 exact Ha hkw
theorem Kz(hx:rx=xr X ops){x:XP}(h:nth rx.xs i=some x): ∃o,ops[i]? =some o/\x=xop X ops o:=by
 subst hx
 have h:nth (y3 (xop X ops) ops.toList) i=some x:=h
 rw[gN,yn,List.getElem?_map] at h
 obtain⟨o,ho,rfl⟩:=Option.map_eq_some_iff.1 h
 exact⟨o,by simpa using ho,rfl⟩
theorem Cu{G:Nat->Option (List AV)}{B B':Bs}{h h':Hp}{a:AV}{j:Nat}(hp:D7 a=some j)(he:h.get B j=h'.get B' j):o3 G B h a=o3 G B' h' a:=by
 cases a<;>first|(cases hp;done)|skip
 ·cases hp
  show bnd (ue (h.get B _)) _=bnd (ue (h'.get B' _)) _
  rw[he]
 ·cases hp
  show bnd (rZ (h.get B _)) _=bnd (rZ (h'.get B' _)) _
  rw[he]
theorem Ks(B:Bs)(j:Nat):h00.get B j=fnd B j:=rfl
theorem DA{ρ:Rho}(h:LR ρ Bf O0):HR ρ Bf O0 h00 O0:=⟨h,[],.nil,rfl⟩
theorem FC{G:Nat->Option (List AV)}{B:Bs}{h:Hp}{a:AV}{j:Nat}{q:List AV×Nat}(hp:D7 a=some j)(hm:o3 G B h a=some q): ∃c,h.get B j=some c:=by
 cases a<;>first|(cases hp;done)|skip
 ·cases hp
  obtain⟨cs,hcs,_⟩:=ah (show bnd (ue (h.get B _)) _=some q from hm)
  cases hg:h.get B j with
  |none=>rw[hg] at hcs;cases hcs
  |some c=>exact⟨c,rfl⟩
 ·cases hp
  obtain⟨cs,hcs,_⟩:=ah (show bnd (rZ (h.get B _)) _=some q from hm)
  cases hg:h.get B j with
  |none=>rw[hg] at hcs;cases hcs
  |some c=>exact⟨c,rfl⟩
theorem tr{os:List Oper}{xs:List XP}{ws:List Nat}: ∀{xl:List XP} {s j:Nat} {x:XP},oq os xs ws xl s=true->xl[j]? =some x->isH x.x=true-> ∀q∈ws,q∈qK os 0 [s+j]
 | [],_,_,_,_,h,_=>by simp at h
 |y::r,s,0,x,hs,h,hH=>by
  simp at h
  subst h
  obtain⟨h1,_⟩:=bZ (show((!isH y.x||ws.all (el (qK os 0 [s])))&&oq os xs ws r (s+1))=true from hs)
  rw[hH] at h1
  have h1:ws.all (el (qK os 0 [s]))=true:=h1
  intro q hq
  have:=List.all_eq_true.1 h1 q hq
  rw[wK] at this
  simpa using this
 |y::r,s,j+1,x,hs,h,hH=>by
  obtain⟨_,h2⟩:=bZ (show((!isH y.x||ws.all (el (qK os 0 [s])))&&oq os xs ws r (s+1))=true from hs)
  have:=tr h2 (by simpa using h) hH
  rw[show s+(j+1)=s+1+j from by omega]
  exact this
theorem w4: ∀{U:Us} {q:List Nat×Nat×AV},Eu U i=some q->(i,q)∈U
 | [],_,h=>by cases h
 |u::r,q,h=>by
  have h:ifb (Nat.beq u.1 i) (some u.2) (Eu r i)=some q:=h
  rcases cH h with⟨h1,h2⟩|⟨_,h2⟩
  ·cases h2
   obtain rfl:=eD h1
   exact List.mem_cons_self
  ·exact List.mem_cons_of_mem _ (w4 h2)
def Un(ops:Array Oper)(i:Nat)(l:Array Bool):Prop:=Cl ops l/\l.getD i false=false
theorem Un.clo(h:Un ops i l){q:Nat}(hq:q∈qK ops.toList 0 [i]):l.getD q false=false:=
 CX h.1 ops.toList 0 [i] (λm o hm=>by simpa using hm) (λk hk=>by rw[List.mem_singleton.1 hk];exact h.2) q hq
theorem Ho(hX:gB X R)(hx:rx=xr X ops)(hU:UOk ops rx U)(ho:ops[i]? =some o){g:Option (Nat×Bool)}(hg:gdO ops o.guard=some g){wb:Bool}{av:AV}(hv:NK X rx U Bf nd i (xo X o.op) wb=some av)
 {ρ:Rho} {L:Env} (hB:LR ρ Bf O0) (hE:ER ρ nd.e L): ∃v,VR ρ av v/\(wb=false->v=undef)/\(wb=true-> ∀σ w,(∀x u,ev L x=some u->σ x=u)->(∃l,Un ops i l/\SS R rx U Bf O0 l w)->(execOp σ o).run X.P w= .ok (.value v) w):=by
 cases wb with
 |false=>
  have hv:some (.tu [])=some av:=hv
  cases hv
  exact⟨undef,.tu .nil,λ_=>rfl,λh=>by cases h⟩
 |true=>
  have hv:orC (NX nd.e (xo X o.op)) (HY X rx.simple rx.ws U Bf nd i (xo X o.op))=some av:=hv
  have hxi:rx.xs[i]? =some (xop X ops o):=by
   subst hx
   show(y3 (xop X ops) ops.toList)[i]? =_
   rw[yn,List.getElem?_map]
   have:ops.toList[i]? =some o:=by simpa using ho
   rw[this];rfl
  have hxo:(xop X ops o).x=xo X o.op:=by rw[kg hg]
  rcases lP hv with hv|⟨_,hv⟩
  ·generalize hxx:xo X o.op=x at hv
   cases x with
   |p f=>
    obtain⟨v,hvv,hr⟩:=Oi (R:=R) (O:=[]) hX.q hxx hE hv
    exact⟨v,hvv,λh=>(by cases h),λ_ σ w hσ ⟨l,_,hS⟩=>hr σ w hσ hS.1 (λc hc=>absurd hc List.not_mem_nil)⟩
   |_=>cases hv
  ·unfold HY at hv
   rcases cH hv with⟨hsimp,hv⟩|⟨_,hv⟩
   ·rcases cH hv with⟨_,hv⟩|⟨_,hv⟩
    ·cases hv
    ·have hsm: ∀q∈rx.ws,isH (xo X o.op)=true->q∈qK ops.toList 0 [i]:=λq hq hH=>by
      have h1:oq ops.toList rx.xs rx.ws rx.xs 0=true:=by subst hx;exact hsimp
      have:=tr h1 hxi (by rw[hxo];exact hH) q hq
      rwa [Nat.zero_add] at this
     have hO: ∀l w,isH (xo X o.op)=true->Un ops i l->SS R rx U Bf O0 l w-> ∀c∈O0,c.pred w:=λl w hH hun hS=>hS.2.1 hsimp λq hq=>hun.clo (hsm q hq hH)
     generalize hxx:xo X o.op=x at hv hO
     cases x with
     |l t y=>
      obtain⟨v,hvv,hr⟩:=MS hxx hX.g hE (DA hB) (show bnd (gv nd.e y) (nk X.P X.G Bf h00 t)=some av from hv)
      exact⟨v,hvv,λh=>(by cases h),λ_ σ w hσ ⟨l,hun,hS⟩=>hr σ w hσ hS.1 (hO l w rfl hun hS)⟩
     |r f=>
      obtain⟨v,hvv,hr⟩:=Oj (R:=R) hxx hE (DA hB) (show f nd.e Bf h00=some av from hv)
      exact⟨v,hvv,λh=>(by cases h),λ_ σ w hσ ⟨l,hun,hS⟩=>hr σ w hσ hS.1 (hO l w rfl hun hS)⟩
     |_=>cases hv
   ·obtain⟨q,hq,hv⟩:=ah hv
    have hmem:=w4 hq
    have hbeh:q.1=behind ops.toList rx.xs i:=hU _ hmem
    unfold N1 at hv
    rcases cH hv with⟨_,hv⟩|⟨_,hv⟩
    ·cases hv
    ·generalize hxx:xo X o.op=x at hv
     cases x with
     |l t y=>
      obtain⟨a0,ha0,hv⟩:=ah (show bnd (gv nd.e y) _=some av from hv)
      obtain⟨b,hb,hv⟩:=ah hv
      obtain⟨hbq,hv2⟩:=aI hv
      clear hv
      obtain rfl:=eD hbq
      obtain⟨mq,hmq,_⟩:=ah (show bnd (o3 X.G Bf h00 a0) _=some av from hv2)
      obtain⟨c,hc⟩:=FC hb hmq
      rw[Ks] at hc
      obtain⟨ow,how,hC⟩:=hB.oN hc
      have hsame:o3 X.G [(q.2.1,c)] h00 a0=o3 X.G Bf h00 a0:=Cu hb (by
       rw[Ks,Ks,hc]
       show ifb (Nat.beq q.2.1 q.2.1) (some c) none=some c
       rw[show Nat.beq q.2.1 q.2.1=true from Nat.beq_refl _];rfl)
      have hload:bnd (gv nd.e y) (nk X.P X.G [(q.2.1,c)] h00 t)=some av:=by
       rw[ha0]
       show bnd (o3 X.G [(q.2.1,c)] h00 a0) _=some av
       rw[hsame]
       exact hv2
      obtain⟨v,hvv,hr⟩:=MS hxx hX.g hE (DA (ρ:=ρ) (Bf:=[(q.2.1,c)]) (O0:=[ow]) (.cons hC .nil)) hload
      refine⟨v,hvv,λh=>(by cases h),λ_ σ w hσ ⟨l,hun,hS⟩=>hr σ w hσ hS.1 λc' hc'=>?_⟩
      rw[List.mem_singleton.1 hc']
      refine hS.2.2 _ hmem (λk hk=>?_) ow how
      rw[hbeh] at hk
      exact hun.clo (List.mem_filter.1 hk).1
     |_=>cases hv
theorem Bo{oi:Oper}: ∀{os:List Oper} {s j:Nat} {oj:Oper},Ao ops oi i os s=true->os[j]? =some oj->s+j=i∨onI oj i=true∨onI oi (s+j)=true∨oi.apart ops oj=true
 | [],_,_,_,_,h=>by simp at h
 |o::r,s,0,oj,hf,h=>by
  simp at h
  subst h
  obtain⟨h1,_⟩:=bZ (show((Nat.beq s i||onI o i||onI oi s||oi.apart ops o)&&Ao ops oi i r (s+1))=true from hf)
  rw[Bool.or_eq_true,Bool.or_eq_true,Bool.or_eq_true] at h1
  rcases h1 with((h1|h1)|h1)|h1
  ·exact .inl (eD h1)
  ·exact .inr (.inl h1)
  ·exact .inr (.inr (.inl h1))
  ·exact .inr (.inr (.inr h1))
 |o::r,s,j+1,oj,hf,h=>by
  obtain⟨_,h2⟩:=bZ (show((Nat.beq s i||onI o i||onI oi s||oi.apart ops o)&&Ao ops oi i r (s+1))=true from hf)
  have:=Bo (j:=j) h2 (by simpa using h)
  rw[show s+(j+1)=s+1+j from by omega]
  exact this
theorem AN{oj:Oper}{q:Nat}(h:onI oj q=true): ∃e∈oj.after,Region.binds .any e=true/\e.on=q:=by
 obtain⟨e,he,hh⟩:=List.any_eq_true.1 h
 obtain⟨h1,h2⟩:=bZ hh
 exact⟨e,Array.mem_toList_iff.1 he,h1,eD h2⟩
theorem Ls{d:Nat}{av:AV}:nd.goes i d av=⟨Nat.lor nd.li (2^i),nd.e.put d av,nd.h⟩:=by unfold Nd.goes;rw[dz]
theorem jF(hsz:l.size=ops.size)(hb: ∀j,l.getD j false=bit nd.li j)(hi:i<ops.size)(j:Nat):(l.setIfInBounds i true).getD j false=bit (Nat.lor nd.li (2^i)) j:=by
 rw[J8 (by rw[hsz];exact hi),PU,hb]
theorem LS(hX:gB X R)(hx:rx=xr X ops)(hU:UOk ops rx U)(hB0:LR ρ0 Bf O0)(hok: ∀o∈ops.toList,oP k o=true)(hm:Ek X ops rx U Bf nd i=some nd')(hi:i∈Region.ready .any ops l)(hN:NR k ds ρ0 R ops rx U Bf O0 F S nd l a w):
 ∃a',NR k ds ρ0 R ops rx U Bf O0 F S nd' (l.setIfInBounds i true) a' w/\left (l.setIfInBounds i true)+1=left l/\ ∀(Q:Exit->Act->World->Prop) (fuel:Nat),(∀c a w,¬Q (.panic c) a w)->
  Go.SL.wpAnyL X.P .any ops Q (SS R rx U Bf O0) fuel (l.setIfInBounds i true) a' w->Go.SL.wpAnyL X.P .any ops Q (SS R rx U Bf O0) (fuel+1) l a w:=by
 obtain⟨x,hx1,hm⟩:=ah hm
 obtain⟨d,hd,hm⟩:=ah hm
 obtain⟨wb,hwb,hm⟩:=ah hm
 obtain⟨av,hav,hm⟩:=ah hm
 cases hm
 obtain⟨o,ho,hx1⟩:=ah hx1
 obtain⟨x',hx',hx1⟩:=ah hx1
 obtain⟨htk,hx1⟩:=aI hx1
 cases hx1
 rw[gN] at ho
 have ho:ops[i]? =some o:=by simpa using ho
 have hilt:i<ops.size:=(Array.getElem?_eq_some_iff.1 ho).1
 have hmem:o∈ops.toList:=Array.mem_toList_iff.2 (Array.mem_of_getElem? ho)
 obtain⟨o',ho',rfl⟩:=Kz hx hx'
 rw[ho] at ho';cases ho'
 obtain⟨hisR,htk⟩:=bZ htk
 obtain⟨hnosel,hfree⟩:=bZ htk
 cases hg:gdO ops o.guard with
 |none=>rw[sP hg] at hd;cases hd
 |some g=>
  rw[kg hg] at hd hwb hav hisR
  have hd:o.dst=some d:=hd
  obtain⟨hsz,hb,hcl,hS,ρ,L,O,hXt,hNw,hE,H,hfr,hs⟩:=hN
  obtain⟨v,hv,hv0,hv1⟩:=Ho hX hx hU ho hg hav (hB0.mono hXt.1) hE
  have hdn:Nat.blt d k=true:=kz (hok o hmem) ds d hd
  have hwr:we rx.xs i=false:=by
   unfold we
   rw[hx',kg hg]
   show(!isR (xo X o.op))=false
   rw[show isR (xo X o.op)=true from hisR];rfl
  have hun:Un ops i l:=⟨hcl,by
   have:=(mem_ready.1 hi).1
   simp[hsz,hilt] at this⊢
   exact this⟩
  have hyi:YieldsIf X.P ops (λw=> ∃l,Un ops i l/\SS R rx U Bf O0 l w) o v a:=by
   have hw:=sS hg hwb hE hfr
   cases wb with
   |true=>exact .inl ⟨hw,λw' hw'=>hv1 rfl a.eval w' (λx u hxu=>hfr.ev hxu) hw'⟩
   |false=>exact .inr ⟨hw,hv0 rfl⟩
  refine⟨a.put o.dst v,?_,Bc (by rw[hsz];exact hilt) hun.2,λQ fuel hQ hk=>?_⟩
  ·rw[Ls]
   refine⟨by rw[Array.size_setIfInBounds];exact hsz,jF hsz hb hilt,hcl.set hi,hS.mono i,ρ,(d,v)::L,O,hXt,λj hj hl=>hNw j hj (ka hl),hE.put hv,H,?_,hs⟩
   rw[hd]
   exact hfr.put hdn v
  ·refine wh (E:=Un ops i) ho (Region.noSelect_spec hnosel) (λc a w h=>absurd h (hQ c _ _)) (λl w h=>h.mono i) (λl w h=>h.back hx hU hwr) (λl' j hl' hj hne=>⟨hl'.1.set hj,by rw[getD_set_ne false hne];exact hl'.2⟩) fuel l a w (λj oj hj hji hjl hno=>?_) hi hun hyi hS hk
   rcases Bo (s:=0) (j:=j) hfree (by simpa using hj) with h1|h1|h1|h1
   ·omega
   ·obtain⟨e,he,hbe,heq⟩:=AN h1
    exact absurd heq (hno e he hbe)
   ·obtain⟨e,he,hbe,heq⟩:=AN h1
    obtain⟨_,o'',ho'',hall⟩:=mem_ready.1 hi
    rw[ho] at ho'';cases ho''
    have h2:=hall e he hbe
    rw[heq,Nat.zero_add] at h2
    have hjlt:j<l.size:=by rw[hsz];exact(Array.getElem?_eq_some_iff.1 hj).1
    simp[hjlt] at h2 hjl
    rw[hjl] at h2;cases h2
   ·exact h1
end
end Go.Ex
namespace Go.Ex
open Go Go.SL
section
variable{ρ0:Rho}{X:Fx}{o:Oper}{R:List RO}{O0 F:List Own}{e:Tr}{Bf:Bs}{rc:RC}{ops:Array Oper}{k:Nat}{ds:List Deferred}{U:Us}{S:Sp}{nd nd':Nd}{l:Array Bool}{a:Act}{w:World}{i:Nat}{rx:XR}{B:Bs}{h:Hp}
theorem LB(hX:gB X R){y:Bool}{q:Tr×Hp}(hr:isR (xo X o.op)=true)(hm:yk X rc y o.dst (xo X o.op) e B h=some q):
 q.2=h/\ ∃d av,o.dst=some d/\q.1=e.put d av/\ ∀(ρ:Rho) (OB O:List Own) (L:Env),ER ρ e L->HR ρ B OB h O-> ∃v,VR ρ av v/\Rd X.P o L R O v:=by
 generalize hx:xo X o.op=x at hm hr
 cases x with
 |p f=>
  obtain⟨a,d,ha,hd,rfl⟩:=fW (show rq o.dst e h (f e)=some q from hm)
  exact⟨rfl,d,a,hd,rfl,λρ OB O L hE H=>Oi hX.q hx hE ha⟩
 |l t x=>
  obtain⟨a,d,ha,hd,rfl⟩:=fW (show rq o.dst e h (ldA X e B h t x)=some q from hm)
  exact⟨rfl,d,a,hd,rfl,λρ OB O L hE H=>MS hx hX.g hE H ha⟩
 |r f=>
  obtain⟨a,d,ha,hd,rfl⟩:=fW (show rq o.dst e h (f e B h)=some q from hm)
  exact⟨rfl,d,a,hd,rfl,λρ OB O L hE H=>Oj hx hE H ha⟩
 |_=>cases hr
theorem Ext.within{ρ ρ':Rho}{A Y0 a b:Nat}(h:Ext ρ0 ρ A Y0)(h':Ext ρ ρ' a b)(h1:A<=a)(h2:b<=Y0):Ext ρ0 ρ' A Y0:=
 ⟨Rho.trans h.1 h'.1,λi hi=>by rw[h'.2 i ao,h.2 i hi]⟩
theorem OU(hX:gB X R)(hrc:kQ X R rc)(hx:rx=xr X ops)(hok: ∀o∈ops.toList,oP k o=true){x:XP}{wb:Bool}(hxi:nth rx.xs i=some x)(hwb:sc x.g nd.e=some wb)(hm:stB X rc Bf S U nd i x wb=some nd')(hi:i∈Region.ready .any ops l)(hN:NR k ds ρ0 R ops rx U Bf O0 F S nd l a w)(Q:Exit->Act->World->Prop):
 left (l.setIfInBounds i true)+1=left l/\wpOp X.P ops Q i (λa' w'=>NR k ds ρ0 R ops rx U Bf O0 F S nd' (l.setIfInBounds i true) a' w') a w:=by
 obtain⟨o,ho,rfl⟩:=Kz hx hxi
 have hilt:i<ops.size:=(Array.getElem?_eq_some_iff.1 ho).1
 have hok1:oP k o=true:=hok o (Array.mem_toList_iff.2 (Array.mem_of_getElem? ho))
 obtain⟨hsz,hb,hcl,hS,ρ,L,O,hXt,hNw,hE,H,hfr,hs⟩:=hN
 have hil:l.getD i false=false:=by
  have:=(mem_ready.1 hi).1
  simp[hsz,hilt] at this⊢
  exact this
 refine⟨Bc (by rw[hsz];exact hilt) hil,?_⟩
 unfold stB at hm
 rw[dz,dz] at hm
 cases hg:gdO ops o.guard with
 |none=>
  rw[sP hg] at hwb hm
  cases hwb
  cases hm
 |some g=>
  rw[kg hg] at hwb hm
  have hw:=sS hg hwb hE hfr
  unfold wpOp
  rw[ho]
  cases wb with
  |false=>
   have hm:some (⟨Nat.lor nd.li (2^i),eH nd.e o.dst (.tu []),nd.h⟩:Nd)=some nd':=hm
   cases hm
   simp only[hw,Bool.false_eq_true,if_false]
   exact⟨by rw[Array.size_setIfInBounds];exact hsz,jF hsz hb hilt,hcl.set hi,hS.mono i,ρ,mI L o.dst undef,O,hXt,λj hj hl=>hNw j hj (ka hl),ju hE _ (.tu .nil),H,jC hfr (kz hok1 ds) undef,hs⟩
  |true=>
   simp only[hw,if_true]
   obtain⟨q,hq,hm⟩:=ah (show bnd (yk X rc false o.dst (xo X o.op) nd.e Bf ⟨nd.h.cur,nd.h.ff,S.nx+i*S.s,S.lv⟩) (stU U (Nat.lor nd.li (2^i)) (S.nx+i*S.s+S.s))=some nd' from hm)
   obtain⟨hu,hm⟩:=aI hm
   cases hm
   obtain⟨hu,htop⟩:=bZ hu
   have htop:=Nat.le_of_ble_eq_true htop
   refine .inl ?_
   have H':HR ρ Bf O0 ⟨nd.h.cur,nd.h.ff,S.nx+i*S.s,S.lv⟩ O:=H
   by_cases hR:isR (xo X o.op)=true
   ·obtain⟨hq2,d,av,hd,hq1,hrd⟩:=LB hX hR hq
    obtain⟨v,hv,hr⟩:=hrd ρ O0 O L hE H'
    unfold Oper.wp
    rw[hr a.eval w (λx u hx=>hfr.ev hx) (λp hp=>hs.read hp) (λc hc=>hs.see (List.mem_append_left _ hc)),Oper.upon_value,hd]
    refine⟨by rw[Array.size_setIfInBounds];exact hsz,jF hsz hb hilt,hcl.set hi,hS.mono i,ρ,(d,v)::L,O,hXt,λj hj hl=>hNw j hj (ka hl),?_,?_,hfr.put (kz hok1 ds d hd) v,hs⟩
    ·show ER ρ q.1 _
     rw[hq1];exact hE.put hv
    ·show HR ρ Bf O0 q.2 O
     rw[hq2];exact H'
   ·rcases Ea hX hrc hok1 hq with⟨hf,_⟩|⟨hle,hop⟩
    ·cases hf
    have hle:S.nx+i*S.s<=q.2.nx:=hle
    have hNi:=(hNw i hilt hil).sub (Nat.le_refl _) htop
    refine Oper.wp_mono (λa' w' hq=>?_) (hop ρ O0 O F L ds hE H' hNi a w hfr hs Q)
    obtain⟨L',R',O',⟨rfl,ρ',O1,hX',hE',H1,rfl⟩,hfr',hs'⟩:=hq
    have hX':Ext ρ ρ' (S.nx+i*S.s) q.2.nx:=hX'
    have hi1:(i+1)*S.s<=ops.size*S.s:=Nat.mul_le_mul_right _ hilt
    rw[Nat.add_mul,Nat.one_mul] at hi1
    have hwr:we rx.xs i=true:=by
     unfold we
     rw[hxi,kg hg]
     show(!isR (xo X o.op))=true
     simpa using hR
    refine⟨by rw[Array.size_setIfInBounds];exact hsz,jF hsz hb hilt,hcl.set hi,⟨λp hp=>hs'.read hp,λhsm hk=>?_,λu hu' hk o' ho'=>?_⟩,ρ',L',O1,hXt.within hX' ao ao,λj hj hl=>?_,hE',H1,hfr',hs'⟩
    ·exfalso
     have hmem:i∈rx.ws:=by
      subst hx
      refine List.mem_filter.2 ⟨List.mem_range.2 ?_,hwr⟩
      rw[gN] at hxi
      exact(List.getElem?_eq_some_iff.1 hxi).1
     have:=hk i hmem
     rw[lu (by rw[hsz];exact hilt)] at this
     cases this
    ·have h1:tP (Nat.lor nd.li (2^i)) u.2.1=false:=Im λk hk'=>by rw[←jF hsz hb hilt];exact hk k hk'
     have h2:=List.all_eq_true.1 (show(U.all λu=>tP (Nat.lor nd.li (2^i)) u.2.1||(!el q.2.ff u.2.2.1))=true from hu) u hu'
     rw[h1,Bool.false_or,wK] at h2
     have h3:u.2.2.1∉q.2.ff:=by simpa using h2
     exact hs'.see (List.mem_append_left _ (H1.kept h3 ho'))
    ·have hji:j≠i:=λe=>by
      subst e
      rw[lu (by rw[hsz];exact hilt)] at hl;cases hl
     refine(hNw j hj (ka hl)).ext hX' ?_
     rcases Nat.lt_or_gt_of_ne hji with h1|h1
     ·right
      have h2:(j+1)*S.s<=i*S.s:=Nat.mul_le_mul_right _ h1
      rw[Nat.add_mul,Nat.one_mul] at h2
      omega
     ·left
      have h2:(i+1)*S.s<=j*S.s:=Nat.mul_le_mul_right _ h1
      rw[Nat.add_mul,Nat.one_mul] at h2
      omega
def Nd.Le(m n:Nd):Prop:=m=n∨(m.li=n.li/\m.e.le n.e=true/\m.h.le n.h=true)
theorem NR.le{m n:Nd}(h:m.Le n)(hN:NR k ds ρ0 R ops rx U Bf O0 F S n l a w):NR k ds ρ0 R ops rx U Bf O0 F S m l a w:=by
 rcases h with rfl|⟨h1,h2,h3⟩
 ·exact hN
 ·obtain⟨hsz,hb,hcl,hS,ρ,L,O,hXt,hNw,hE,H,hfr,hs⟩:=hN
  obtain⟨O',H',hW⟩:=H.le h3
  exact⟨hsz,by rw[h1];exact hb,hcl,hS,ρ,L,O',hXt,hNw,hE.le h2,H',hfr,hW.sat hs⟩
theorem JG: ∀{l r:List Nd} {n:Nd},ins l n=some r->(∀m∈l,m∈r)/\ ∃m∈r,m.Le n
 | [],r,n,h=>by cases h;exact⟨λm hm=>absurd hm List.not_mem_nil,n,List.mem_singleton.2 rfl,.inl rfl⟩
 |m::l,r,n,h=>by
  have h:ifb (Nat.beq m.li n.li) (ifb (m.e.le n.e&&m.h.le n.h) (some (m::l)) none) (bnd (ins l n) λs=>some (m::s))=some r:=h
  rcases cH h with⟨h1,h2⟩|⟨_,h2⟩
  ·obtain⟨h3,h2⟩:=aI h2
   cases h2
   obtain⟨h3,h4⟩:=bZ h3
   exact⟨λm hm=>hm,m,List.mem_cons_self,.inr ⟨eD h1,h3,h4⟩⟩
  ·obtain⟨s,hs,h2⟩:=ah h2
   cases h2
   obtain⟨h3,m',hm',hle⟩:=JG hs
   exact⟨λq hq=>by
    rcases List.mem_cons.1 hq with rfl|hq
    ·exact List.mem_cons_self
    ·exact List.mem_cons_of_mem _ (h3 q hq),m',List.mem_cons_of_mem _ hm',hle⟩
theorem wY: ∀{ns l r:List Nd},x7 l ns=some r->(∀m∈l,m∈r)/\ ∀n∈ns,∃m∈r,m.Le n
 | [],l,r,h=>by
   have h:some l=some r:=by cases l<;>exact h
   cases h;exact⟨λm hm=>hm,λn hn=>absurd hn List.not_mem_nil⟩
 |n::ns,l,r,h=>by
  have h:bnd (ins l n) (λl=>x7 l ns)=some r:=by cases l<;>exact h
  obtain⟨l1,hl1,h⟩:=ah h
  obtain⟨h1,m,hm,hle⟩:=JG hl1
  obtain⟨h2,h3⟩:=wY h
  refine⟨λq hq=>h2 q (h1 q hq),λq hq=>?_⟩
  rcases List.mem_cons.1 hq with rfl|hq
  ·exact⟨m,h2 m hm,hle⟩
  ·exact h3 q hq
theorem tA: ∀{rs:List Nat} {n:Nd},Ey X ops rx U Bf nd rs=some n-> ∃i∈rs,Ek X ops rx U Bf nd i=some n
 | [],_,h=>by cases h
 |i::rs,n,h=>by
  rcases lP (show orC (Ek X ops rx U Bf nd i) (Ey X ops rx U Bf nd rs)=some n from h) with h|⟨_,h⟩
  ·exact⟨i,List.mem_cons_self,h⟩
  ·obtain⟨j,hj,h⟩:=tA h
   exact⟨j,List.mem_cons_of_mem _ hj,h⟩
theorem wL: ∀{rs:List Nat} {ns:List Nd},Oz X rc rx Bf S U nd rs=some ns-> ∀i∈rs,∃x wb n,nth rx.xs i=some x/\sc x.g nd.e=some wb/\stB X rc Bf S U nd i x wb=some n/\n∈ns
 | [],_,_,i,hi=>absurd hi List.not_mem_nil
 |j::rs,ns,h,i,hi=>by
  obtain⟨x,hx,h⟩:=ah (show bnd (nth rx.xs j) _=some ns from h)
  obtain⟨wb,hwb,h⟩:=ah h
  obtain⟨n,hn,h⟩:=ah h
  obtain⟨l,hl,h⟩:=ah h
  cases h
  rcases List.mem_cons.1 hi with rfl|hi
  ·exact⟨x,wb,n,hx,hwb,hn,List.mem_cons_self⟩
  ·obtain⟨x',wb',n',h1,h2,h3,h4⟩:=wL hl i hi
   exact⟨x',wb',n',h1,h2,h3,List.mem_cons_of_mem _ h4⟩
theorem Cd{x:Option (List Nd)}{ns:List Nd}(h:Hn x=some ns):x=some ns/\ns≠ []:=by
 match x,h with
 |none,h=>cases h
 |some [],h=>cases h
 |some (n::ns'),h=>cases h;exact⟨rfl,by simp⟩
theorem xI{C:Nd->Prop}(hC: ∀m n,m.Le n->C n->C m): ∀{nds ns:List Nd},Mw X rc ops rx Bf S U nds=some ns-> ∀nd∈nds,∃b,AY X rc ops rx Bf S U nd (mD nd.li rx.ops 0)=some b/\b≠ []/\ ∀n∈b,C n-> ∃m∈ns,C m
 | [],_,_,nd,hnd=>absurd hnd List.not_mem_nil
 |nd0::r,ns,h,nd,hnd=>by
  obtain⟨a,ha,h⟩:=ah (show bnd (fN nd0.li λli=>Hn (AY X rc ops rx Bf S U nd0 (mD li rx.ops 0))) _=some ns from h)
  rw[dz] at ha
  obtain⟨ha,hne⟩:=Cd ha
  obtain⟨b,hb,h⟩:=ah h
  obtain⟨h1,h2⟩:=wY h
  rcases List.mem_cons.1 hnd with rfl|hnd
  ·exact⟨a,ha,hne,λn hn hc=>⟨n,h1 n hn,hc⟩⟩
  ·obtain⟨c,hc,hne',h3⟩:=xI hC hb nd hnd
   refine⟨c,hc,hne',λn hn hcn=>?_⟩
   obtain⟨m,hm,hcm⟩:=h3 n hn hcn
   obtain⟨m',hm',hle'⟩:=h2 m hm
   exact⟨m',hm',hC _ _ hle' hcm⟩
def Fin(k:Nat)(ds:List Deferred)(ρ0:Rho)(R:List RO)(n:Nat)(Bf:Bs)(O0 F:List Own)(S:Sp)(q:Tr×Hp):Exit->Act->World->Prop:=λex a w=>ex= .normal/\ ∃ρ L O,Ext ρ0 ρ S.nx (S.nx+n*S.s)/\ER ρ q.1 L/\HR ρ Bf O0 q.2 O/\Fr ⟨k,ds⟩ L a/\Sat R (O++F) w
theorem E1(hX:gB X R)(hrc:kQ X R rc)(hx:rx=xr X ops)(hU:UOk ops rx U)(hB0:LR ρ0 Bf O0)(hok: ∀o∈ops.toList,oP k o=true): ∀(fuel:Nat) {nds:List Nd} {q:Tr×Hp},KN X rc ops rx Bf S U fuel nds=some q-> ∀nd∈nds,∀(l:Array Bool) (a:Act) (w:World),NR k ds ρ0 R ops rx U Bf O0 F S nd l a w->left l=fuel->
 Go.SL.wpAnyL X.P .any ops (Fin k ds ρ0 R ops.size Bf O0 F S q) (SS R rx U Bf O0) fuel l a w
 |0,nds,q,hm,nd,hnd,l,a,w,hN,hl=>by
  have hm:Ic nds=some q:=hm
  unfold Ic at hm
  split at hm
  ·cases hm
   rw[List.mem_singleton] at hnd
   subst hnd
   obtain⟨_,_,_,_,ρ,L,O,hXt,_,hE,H,hfr,hs⟩:=hN
   exact⟨G7 hl,rfl,ρ,L,O,hXt,hE,H,hfr,hs⟩
  ·cases hm
 |fuel+1,nds,q,hm,nd,hnd,l,a,w,hN,hl=>by
  obtain⟨ns,hns,hm⟩:=ah (show bnd (Mw X rc ops rx Bf S U nds) (KN X rc ops rx Bf S U fuel)=some q from hm)
  have ih:=λnd hnd l a w hN hl=>E1 hX hrc hx hU hB0 hok fuel hm nd hnd l a w hN hl
  have hrdy: ∀i,i∈Region.ready .any ops l↔i∈mD nd.li rx.ops 0:=λi=>by
   have:rx.ops=ops.toList:=by subst hx;rfl
   rw[this]
   exact FQ hN.1 hN.2.1 i
  have key: ∀(l':Array Bool) (a':Act) (w':World),∃b,AY X rc ops rx Bf S U nd (mD nd.li rx.ops 0)=some b/\b≠ []/\ ∀n∈b,NR k ds ρ0 R ops rx U Bf O0 F S n l' a' w'-> ∃m∈ns,NR k ds ρ0 R ops rx U Bf O0 F S m l' a' w':=
   λl' a' w'=>xI (C:=λn=>NR k ds ρ0 R ops rx U Bf O0 F S n l' a' w') (λm n h hn=>hn.le h) hns nd hnd
  obtain⟨b,hb,hbne,_⟩:=key l a w
  have key: ∀n∈b,∀(l':Array Bool) (a':Act) (w':World),NR k ds ρ0 R ops rx U Bf O0 F S n l' a' w'-> ∃m∈ns,NR k ds ρ0 R ops rx U Bf O0 F S m l' a' w':=λn hn l' a' w' hN'=>by
   obtain⟨b',hb',_,hk⟩:=key l' a' w'
   rw[hb] at hb';cases hb'
   exact hk n hn hN'
  unfold AY at hb
  rcases lP hb with hb|⟨_,hb⟩
  ·obtain⟨n,hn,hb⟩:=ah hb
   cases hb
   obtain⟨i,hi,hp⟩:=tA hn
   obtain⟨a',hN',hl',hwp⟩:=LS hX hx hU hB0 hok hp ((hrdy i).2 hi) hN
   obtain⟨m,hm',hNm⟩:=key n (List.mem_singleton.2 rfl) _ _ _ hN'
   exact hwp _ fuel (λc a w h=>by cases h.1) (ih m hm' _ _ _ hNm ao)
  ·have hall:=wL hb
   refine⟨λhemp=>?_,λi hi=>?_⟩
   ·exfalso
    have he:mD nd.li rx.ops 0=[]:=List.eq_nil_iff_forall_not_mem.2 λi hi=>by
     have:=(hrdy i).2 hi
     rw[hemp] at this;cases this
    rw[he] at hb
    cases hb
    exact hbne rfl
   ·obtain⟨x,wb,n,h1,h2,h3,h4⟩:=hall i ((hrdy i).1 hi)
    obtain⟨hl',hwp⟩:=OU hX hrc hx hok h1 h2 h3 hi hN (Fin k ds ρ0 R ops.size Bf O0 F S q)
    refine wpOp_mono (λa' w' hN'=>?_) hwp
    obtain⟨m,hm',hNm⟩:=key n h4 _ _ _ hN'
    exact⟨hNm.2.2.2.1,ih m hm' _ _ _ hNm ao⟩
theorem Cn{os:List Oper}{xs:List XP}{B:Bs}{h:Hp}: ∀(xl:List XP) (i:Nat) (e:Tr),∀u∈orc X os xs B h xl i e,u.2.1=behind os xs u.1
 | [],_,_,u,hu=>absurd hu List.not_mem_nil
 |x::r,i,e,u,hu=>by
  unfold orc at hu
  split at hu
  ·rcases List.mem_cons.1 hu with rfl|hu
   ·rfl
   ·exact Cn r _ _ u hu
  ·exact Cn r _ _ u hu
theorem uH{α:Type}{f:α->Bool}{l:List α}(h:gu f l=true): ∀x∈l,f x=true:=by
 rw[yw] at h
 exact List.all_eq_true.1 h
theorem E3{ro:Option Nat}{x:Xt}{e':Tr}{h':Hp}{id:Nat}(hX:gB X R)(hrc:kQ X R rc)(hm:MZ X rc ops (xr X ops) e B h=some (x,e',h')):
 h.nx<=h'.nx/\ ∀(k:Nat) (ρ:Rho) (OB F:List Own) (a:Act) (w:World),codeOk k (.region id ops true)=true->Nw ρ h.nx h'.nx->St k ρ e B OB h R F a w->
  (Code.region id ops true).wpIn (fw ro) 0 X.P (λex a' w'=>exM x ex/\ ∃ρ',Ext ρ ρ' h.nx h'.nx/\St k ρ' e' B OB h' R F a' w') a w:=by
 unfold MZ at hm
 cases hlv:h.lv with
 |zero=>rw[hlv] at hm;cases hm
 |succ l=>
  rw[hlv] at hm
  have hm:P3 X rc ops (xr X ops) e B h l=some (x,e',h'):=hm
  unfold P3 at hm
  rw[dz] at hm
  obtain⟨q,hq,hm⟩:=ah hm
  cases hm
  have hnx:(h.over (h.nx+(xr X ops).n*16777216^l) q.2).nx=h.nx+ops.size*16777216^l:=rfl
  refine⟨by rw[hnx];omega,λk ρ OB F a w hok hN hst=>?_⟩
  rw[hnx] at hN⊢
  obtain⟨L,O,M,hE,H,hM,hfr,hs⟩:=hst
  have hops: ∀o∈ops.toList,oP k o=true:=uH hok
  have hUo:UOk ops (xr X ops) (Je X (xr X ops) e B h):=λu hu=>by
   unfold Je at hu
   rw[bA] at hu
   split at hu
   ·exact absurd hu List.not_mem_nil
   ·exact Cn _ _ _ u hu
  have hw1:Go.SL.wpAnyL X.P .any ops (Fin k a.defers ρ R ops.size (h.flat B) O (M++F) ⟨h.nx,16777216^l,l⟩ q) (SS R (xr X ops) (Je X (xr X ops) e B h) (h.flat B) O) ops.size (Array.replicate ops.size false) a {w with drawn:=w.drawn+1}:=by
   refine E1 hX hrc rfl hUo H.flat hops ops.size (show KN X rc ops (xr X ops) (h.flat B) ⟨h.nx,16777216^l,l⟩ (Je X (xr X ops) e B h) ops.size [⟨0,e,⟨[],[],h.nx,l⟩⟩]=some q from hq) _ (List.mem_singleton.2 rfl) _ _ _ ?_ (ur _)
   have hs2:=hs.drew (w.drawn+1)
   refine⟨by simp,λi=>?_,λj oj hj hl=>?_,⟨λp hp=>hs2.read hp,λ_ _ o ho=>hs2.see (List.mem_append_left _ ho),λu _ _ o ho=>hs2.see (List.mem_append_left _ (uG ho))⟩,ρ,L,O,Ext.refl ..,λi hi _=>hN.sub (Nat.le_add_right _ _) ?_,hE,⟨H.flat,[],.nil,rfl⟩,hfr,hs2⟩
   ·rw[J7,Array.getD_eq_getD_getElem?,Array.getElem?_replicate]
    split<;>rfl
   ·rw[Array.getD_eq_getD_getElem?,Array.getElem?_replicate] at hl
    split at hl<;>cases hl
   ·have:(i+1)*16777216^l<=ops.size*16777216^l:=Nat.mul_le_mul_right _ hi
    rw[Nat.add_mul,Nat.one_mul] at this
    show h.nx+i*16777216^l+16777216^l<=_
    omega
  refine wpIn_mono (wpIn_region_any hX.mix (qd (λo ho=>uF (hops o ho)) (λ⟨_,_,hf⟩=>by cases hf.1) _ _ _ _ (mh _ _ _ _ hw1))) λex a' w' hf=>?_
  obtain⟨rfl,ρ',L',O2,hX',hE',G,hfr',hs'⟩:=hf
  obtain⟨O3,H3,hW⟩:=H.over (nx:=h.nx+(xr X ops).n*16777216^l) hX'.1 G
  have hd:a'.defers=a.defers:=hfr'.defers
  exact⟨trivial,ρ',hX',L',O3,M,hE',H3,by rw[hd];exact hM,by rw[hd];exact hfr',hW.sat hs'⟩
end
end Go.Ex
namespace Go.Ex
open Go Go.SL
section
variable{ρ:Rho}{X:Fx}{o:Oper}{R:List RO}{O F:List Own}{e:Tr}{B:Bs}{OB:List Own}{h:Hp}{rc:RC}{ops:Array Oper}{k:Nat}{ds:List Deferred}{a:Act}{w:World}
abbrev Aft(X:Fx)(R:List RO)(k:Nat)(ρ:Rho)(B:Bs)(OB F:List Own)(m:Nat)(x:Xt)(e':Tr)(h':Hp):Exit->Act->World->Prop:=λex a' w'=>exM x ex/\ ∃ρ',Ext ρ ρ' m h'.nx/\St k ρ' e' B OB h' R F a' w'
theorem o8{f:Tr->Hp->Rs}{r:Rs}{x:Xt}{e':Tr}{h':Hp}(hm:tF f r=some (x,e',h')):(∃e1 h1,r=some (.nm,e1,h1)/\f e1 h1=some (x,e',h'))∨(r=some (x,e',h')/\x≠ .nm):=by
 obtain⟨q,hq,hm⟩:=ah hm
 obtain⟨x1,e1,h1⟩:=q
 cases x1 with
 |nm=>exact .inl ⟨e1,h1,hq,hm⟩
 |rt=>
  have hm:r=some (x,e',h'):=hm
  rw[hq] at hm
  cases hm
  exact .inr ⟨hq,λh=>by cases h⟩
 |ex i=>
  have hm:r=some (x,e',h'):=hm
  rw[hq] at hm
  cases hm
  exact .inr ⟨hq,λh=>by cases h⟩
theorem AX{id:Nat}{r:Rs}{x:Xt}{e':Tr}{h':Hp}(hm:yU id r=some (x,e',h')):(r=some (.ex id,e',h')/\x= .nm)∨(r=some (x,e',h')/\x≠ .ex id):=by
 obtain⟨q,hq,hm⟩:=ah hm
 obtain⟨x1,e1,h1⟩:=q
 cases x1 with
 |nm=>
  have hm:r=some (x,e',h'):=hm
  rw[hq] at hm
  cases hm
  exact .inr ⟨hq,λh=>by cases h⟩
 |rt=>
  have hm:r=some (x,e',h'):=hm
  rw[hq] at hm
  cases hm
  exact .inr ⟨hq,λh=>by cases h⟩
 |ex i=>
  rcases cH (show ifb (Nat.beq i id) (some (.nm,e1,h1)) r=some (x,e',h') from hm) with⟨h1,h2⟩|⟨h1,h2⟩
  ·obtain rfl:=eD h1
   cases h2
   exact .inl ⟨hq,rfl⟩
  ·rw[hq] at h2
   cases h2
   refine .inr ⟨hq,λh=>?_⟩
   cases h
   rw[show Nat.beq id id=true from Nat.beq_refl _] at h1
   cases h1
theorem tM{ex:Exit}(h:exM .nm ex):ex= .normal:=by cases ex<;>first|rfl|exact h.elim
theorem HG{i:Nat}{ex:Exit}(h:exM (.ex i) ex):ex= .exit i:=by cases ex<;>first|exact congrArg _ (Eq.symm h)|exact h.elim
theorem ET{x:Xt}{ex:Exit}(h:exM x ex)(hx:x≠ .nm){K:Act->World->Prop}{Q:Exit->Act->World->Prop}{a:Act}{w:World}(hq:Q ex a w):Exit.then K Q ex a w:=by
 cases ex with
 |normal=>cases x<;>first|exact absurd rfl hx|exact h.elim
 |_=>exact hq
theorem IZ(hrc:kQ X R rc){j:Nat}{l:List AV}{q:AV×Hp}(hm:bnd (h.take B j) (nI rc j l B)=some q):h.nx<=q.2.nx:=by
 obtain⟨p,hp,hm⟩:=ah hm
 have hnx1:=eh hp
 unfold nI at hm
 split at hm
 case h_2=>cases hm
 obtain⟨_,hm⟩:=aI hm
 obtain⟨e1,h2,hr1,hm⟩:=tZ hm
 obtain⟨x2,e2,h3,hr2,b,xo,rfl,_,_⟩:=xD hm
 have h1:=(hrc _ _ _ _ _ _ _ _ hr1).1
 have h2:=(hrc _ _ _ _ _ _ _ _ hr2).1
 show h.nx<=h3.nx
 omega
theorem KU(hX:gB X R)(hrc:kQ X R rc){y:Bool}{d:Option Nat}{op:Op}{q:Tr×Hp}(hm:yk X rc y d (xo X op) e B h=some q):h.nx<=q.2.nx:=by
 generalize hx:xo X op=x at hm
 cases x with
 |p f=>obtain⟨a,d,ha,hd,rfl⟩:=fW (show rq d e h (f e)=some q from hm);exact Nat.le_refl _
 |l t x=>obtain⟨a,d,ha,hd,rfl⟩:=fW (show rq d e h (ldA X e B h t x)=some q from hm);exact Nat.le_refl _
 |r f=>obtain⟨a,d,ha,hd,rfl⟩:=fW (show rq d e h (f e B h)=some q from hm);exact Nat.le_refl _
 |w f=>obtain⟨p,hp,rfl⟩:=oH (show BW d e (f e B h)=some q from hm);exact Ob hx hp
 |c f=>
  obtain⟨p,hp,rfl⟩:=oH (show BW d e (f rc y e B h)=some q from hm)
  rcases D8 hx with⟨x,args,ts,hop,rfl⟩|⟨x,name,args,ts,hop,rfl⟩
  ·obtain⟨l,hl,hp⟩:=ah hp
   obtain⟨v,hv,hp⟩:=ah hp
   by_cases hy: ∃j,v= .yl j
   ·obtain⟨j,rfl⟩:=hy
    obtain⟨hy,hp⟩:=aI (show ifb y (bnd (h.take B j) (nI rc j l B)) none=some p from hp)
    exact IZ hrc hp
   ·exact Am hX hrc hp λj hj=>hy ⟨j,hj⟩
  ·obtain⟨l,hl,hp⟩:=ah hp
   obtain⟨v,hv,hp⟩:=ah hp
   exact zN hX hrc hp
 |bad=>cases hm
theorem Od(hX:gB X R)(hrc:kQ X R rc){y:Bool}: ∀(rest:List Oper) {e:Tr} {h:Hp} {q:Tr×Hp},FV X rc y B (y3 (xop X ops) rest) e h=some q->h.nx<=q.2.nx
 | [],e,h,q,hm=>by
   have hm:some (e,h)=some q:=hm
   cases hm;exact Nat.le_refl _
 |o::rest,e,h,q,hm=>by
  have hm:bnd (sc (xop X ops o).g e) (λw=>bnd (stL X rc y (xop X ops o) e B h w) λq=>FV X rc y B (y3 (xop X ops) rest) q.1 q.2)=some q:=hm
  obtain⟨wb,hwb,hm⟩:=ah hm
  obtain⟨q1,hq1,hm⟩:=ah hm
  refine Nat.le_trans ?_ (Od hX hrc rest hm)
  cases wb with
  |false=>
   have hq1:some (eH e (xop X ops o).d (.tu []),h)=some q1:=hq1
   cases hq1;exact Nat.le_refl _
  |true=>
   have hq1:yk X rc y (xop X ops o).d (xop X ops o).x e B h=some q1:=hq1
   cases hg:gdO ops o.guard with
   |none=>rw[sP hg] at hq1;cases hq1
   |some g=>rw[kg hg] at hq1;exact KU hX hrc hq1
theorem OO{y:Bool}{c d:Code}{x:Xt}{e':Tr}{h':Hp}(hrc:kQ X R rc)(hm:tF (λe h=>rc y d e B h) (rc y c e B h)=some (x,e',h')):
 h.nx<=h'.nx/\ ∀(ro:Option Nat) (k:Nat) (ρ:Rho) (OB F:List Own) (a:Act) (w:World),codeOk k c=true->codeOk k d=true->(y=true->ro=none)->Nw ρ h.nx h'.nx->St k ρ e B OB h R F a w->
  (Code.seq c d).wpIn (fw ro) 0 X.P (Aft X R k ρ B OB F h.nx x e' h') a w:=by
 rcases o8 hm with⟨e1,h1,hr1,hr2⟩|⟨hr1,hx⟩
 ·obtain⟨hle1,hw1⟩:=hrc _ _ _ _ _ _ _ _ hr1
  obtain⟨hle2,hw2⟩:=hrc _ _ _ _ _ _ _ _ hr2
  refine⟨Nat.le_trans hle1 hle2,λro k ρ OB F a w hc hd hy hN hst=>wpIn_seq (wpIn_mono (hw1 ro k ρ OB F a w hc hy (hN.sub (Nat.le_refl _) hle2) hst) λex a' w' hq=>?_)⟩
  obtain⟨hex,ρ1,hX1,hst1⟩:=hq
  obtain rfl:=tM hex
  refine wpIn_mono (hw2 ro k ρ1 OB F a' w' hd hy ((hN.sub hle1 (Nat.le_refl _)).ext hX1 (.inl (Nat.le_refl _))) hst1) λex a2 w2 hq=>?_
  obtain⟨hex2,ρ2,hX2,hst2⟩:=hq
  exact⟨hex2,ρ2,Ext.trans hle1 hle2 hX1 hX2,hst2⟩
 ·obtain⟨hle1,hw1⟩:=hrc _ _ _ _ _ _ _ _ hr1
  exact⟨hle1,λro k ρ OB F a w hc hd hy hN hst=>wpIn_seq (wpIn_mono (hw1 ro k ρ OB F a w hc hy hN hst) λex a' w' hq=>ET hq.1 hx hq)⟩
theorem IV{y:Bool}{c:Code}{id:Nat}{x:Xt}{e':Tr}{h':Hp}(hrc:kQ X R rc)(hm:yU id (rc y c e B h)=some (x,e',h')):
 h.nx<=h'.nx/\ ∀(ro:Option Nat) (k:Nat) (ρ:Rho) (OB F:List Own) (a:Act) (w:World),codeOk k c=true->(y=true->ro=none)->Nw ρ h.nx h'.nx->St k ρ e B OB h R F a w->
  (Code.block id c).wpIn (fw ro) 0 X.P (Aft X R k ρ B OB F h.nx x e' h') a w:=by
 rcases AX hm with⟨hr1,rfl⟩|⟨hr1,hx⟩
 ·obtain⟨hle1,hw1⟩:=hrc _ _ _ _ _ _ _ _ hr1
  refine⟨hle1,λro k ρ OB F a w hc hy hN hst=>wpIn_block (wpIn_mono (hw1 ro k ρ OB F a w hc hy hN hst) λex a' w' hq=>?_)⟩
  obtain⟨hex,hq⟩:=hq
  obtain rfl:=HG hex
  simp only[Exit.inBlock,if_true]
  exact⟨trivial,hq⟩
 ·obtain⟨hle1,hw1⟩:=hrc _ _ _ _ _ _ _ _ hr1
  refine⟨hle1,λro k ρ OB F a w hc hy hN hst=>wpIn_block (wpIn_mono (hw1 ro k ρ OB F a w hc hy hN hst) λex a' w' hq=>?_)⟩
  cases ex with
  |exit j=>
   have hne: ¬j=id:=λhj=>by
    subst hj
    have h1:=hq.1
    cases x with
    |ex i=>
     have h1:i=j:=h1
     exact hx (by rw[h1])
    |nm=>exact h1.elim
    |rt=>exact h1.elim
   simp only[Exit.inBlock,hne,if_false]
   exact hq
  |_=>exact hq
theorem Mx{y:Bool}{c:Operand}{p d:Code}{x:Xt}{e':Tr}{h':Hp}(hrc:kQ X R rc)(hm:(bnd (opv e c) λv=>bnd (Ef v) (JD y e B h rc p d))=some (x,e',h')):
 h.nx<=h'.nx/\ ∀(ro:Option Nat) (k:Nat) (ρ:Rho) (OB F:List Own) (a:Act) (w:World),codeOk k p=true->codeOk k d=true->(y=true->ro=none)->Nw ρ h.nx h'.nx->St k ρ e B OB h R F a w->
  (Code.cond c p d).wpIn (fw ro) 0 X.P (Aft X R k ρ B OB F h.nx x e' h') a w:=by
 obtain⟨v,hv,hm⟩:=ah hm
 obtain⟨t,ht,hm⟩:=ah hm
 have hvt:v= .bo t:=by
  unfold Ef at ht
  split at ht
  ·cases ht;rfl
  ·cases ht
 subst hvt
 have hc: ∀{k:Nat} {ρ:Rho} {OB F:List Own} {a:Act} {w:World},St k ρ e B OB h R F a w->a.eval c= .bool t:=λhst=>by
  obtain⟨L,O,M,hE,H,hM,hfr,hs⟩:=hst
  obtain⟨va,hva,hx⟩:=hE.op hv
  cases hva
  exact hfr.ev hx
 cases t with
 |true=>
  obtain⟨hle,hw⟩:=hrc _ _ _ _ _ _ _ _ (show rc y p e B h=some (x,e',h') from hm)
  exact⟨hle,λro k ρ OB F a w hp hd hy hN hst=>wpIn_cond_true (hc hst) (hw ro k ρ OB F a w hp hy hN hst)⟩
 |false=>
  obtain⟨hle,hw⟩:=hrc _ _ _ _ _ _ _ _ (show rc y d e B h=some (x,e',h') from hm)
  exact⟨hle,λro k ρ OB F a w hp hd hy hN hst=>wpIn_cond_false (hc hst) (hw ro k ρ OB F a w hd hy hN hst)⟩
theorem If(hX:gB X R)(hrc:kQ X R rc){f:AV}{g:Operand}{ps:Array Nat}{asg body:Code}{x:Xt}{e':Tr}{h':Hp}(hf:opv e g=some f)(hm:y9 X rc e B h ps.toList asg body f=some (x,e',h')):
 h.nx<=h'.nx/\ ∀(k:Nat) (ρ:Rho) (OB F:List Own) (a:Act) (w:World),Rz k ps.toList asg body=true->Nw ρ h.nx h'.nx->St k ρ e B OB h R F a w->
  (Code.rangeFunc g ps asg body).wpIn (fw none) 0 X.P (Aft X R k ρ B OB F h.nx x e' h') a w:=by
 unfold y9 at hm
 split at hm
 case h_2=>cases hm
 rename_i gf fa fc
 obtain⟨fx,hfx,hm⟩:=ah hm
 obtain⟨q,hq,hm⟩:=ah hm
 obtain⟨p,hp,hm⟩:=ah hm
 obtain⟨ch,h3⟩:=p
 obtain⟨hle,hcall⟩:=kF hX hrc hq
 obtain⟨_,_,_,_,_,hbody⟩:=xG hfx
 rw[kS] at hle
 have hnx3:h3.nx=q.2.nx:=eh hp
 have hres: ∃e0 xo ps' asg' body',ch= .lp e0 xo ps' asg' body'/\e'=e/\h'=h3/\x=(match xo with|none=>Xt.nm|some x=>x):=by
  unfold Hx at hm
  split at hm
  ·rename_i heq;cases hm;exact⟨_,_,_,_,_,heq,rfl,rfl,rfl⟩
  ·rename_i heq;cases hm;exact⟨_,_,_,_,_,heq,rfl,rfl,rfl⟩
  ·cases hm
 obtain⟨e0,xo,ps',asg',body',rfl,rfl,rfl,hxx⟩:=hres
 refine⟨by omega,λk ρ OB F a w hlp hN hst=>?_⟩
 obtain⟨L,O,M,hE,H,hM,hfr,hs⟩:=hst
 obtain⟨vf,hvf,hev⟩:=hE.op hf
 cases hvf with
 |fn ha hc=>
  rename_i va vc
  have e1:a.eval g=_:=hfr.ev hev
  refine wpIn_rangeFunc λfn _=>?_
  have hsD:Sat R (dfC w.heap.size::(O++(M++F))) (w.alloc (.deferred (some []))):=hs.alloc _ _ rfl (λw' h _=>h)
  have hsz:(w.alloc (.deferred (some []))).heap.size=w.heap.size+1:=by simp
  have hfr0:Fr ⟨k,[]⟩ L {tmps:=a.tmps,defers:=[]}:=⟨hfr.size,rfl,λt v ht=>hfr.get t v ht⟩
  have hsL:Sat R (recC (w.heap.size+1) ⟨k,[]⟩ L w.heap.size .ready none ps asg body::dfC w.heap.size::(O++(M++F))) ((w.alloc (.deferred (some []))).alloc (.loop {state:=.ready,pending:=none,fn,tmps:=a.tmps,params:=ps,assign:=asg,body,defers:=w.heap.size})):=
   hsD.alloc _ _ (by rw[hsz];rfl) (λw' h _=>⟨fn,a.tmps,by rw[hsz] at h;exact h,hfr0⟩)
  have hX1:=Ext.set (hN h.nx (Nat.le_refl _) ao) (.b (w.heap.size+1))
  have hi1:(ρ.set h.nx (.b (w.heap.size+1))) h.nx=some (.b (w.heap.size+1)):=cI ..
  have hH1:HR (ρ.set h.nx (.b (w.heap.size+1))) B OB (h.add (.lp e' none ps.toList asg body)) (recC (w.heap.size+1) ⟨k,[]⟩ L w.heap.size .ready none ps asg body::O):=by
   rw[add_eq]
   have hC:CR (ρ.set h.nx (.b (w.heap.size+1))) h.nx (.lp e' none ps.toList asg body) (recC (w.heap.size+1) ⟨k,[]⟩ L w.heap.size .ready none ps.toList.toArray asg body):=.lp hi1 (hE.mono hX1.1) .on hlp
   rw[Array.toArray_toList] at hC
   exact(H.mono hX1.1).put hC
  have hN1:Nw (ρ.set h.nx (.b (w.heap.size+1))) (h.add (.lp e' none ps.toList asg body)).nx q.2.nx:=by
   rw[kS]
   exact(hN.sub (Nat.le_succ _) ao).ext hX1 (.inl (Nat.le_refl _))
  have hargs:VRs (ρ.set h.nx (.b (w.heap.size+1))) (app fa (.yl h.nx::fc)) (va++(.func (.yield (w.heap.size+1)) #[] #[]::vc)):=by
   rw[fp]
   exact(ha.mono hX1.1).append (.cons (.yl hi1) (hc.mono hX1.1))
  have hperm:(recC (w.heap.size+1) ⟨k,[]⟩ L w.heap.size .ready none ps asg body::dfC w.heap.size::(O++(M++F))).Perm ((recC (w.heap.size+1) ⟨k,[]⟩ L w.heap.size .ready none ps asg body::O)++(dfC w.heap.size::(M++F))):=
   List.Perm.cons _ List.perm_middle.symm
  have hcw:=hcall _ OB _ _ _ _ hargs hH1 hN1 (hsL.perm hperm)
  have hcw:=show Calls X.P gf _ _ _ from(by
   rcases hcw with⟨_,hcw⟩|⟨v,w',hrun,_⟩
   ·exact hcw
   ·rw[di hbody] at hrun;cases hrun)
  rw[kS] at hcw
  obtain⟨W1,hW1⟩: ∃W1,(w.alloc (.deferred (some []))).alloc (.loop {state:=.ready,pending:=none,fn,tmps:=a.tmps,params:=ps,assign:=asg,body,defers:=w.heap.size})=W1:=⟨_,rfl⟩
  rw[hW1] at hcw
  refine⟨w.heap.size+1,iZ w.heap.size,W1,{target:=.fn (.func gf) vc.toArray,args:=va.toArray++#[.func (.yield (w.heap.size+1)) #[] #[]]},W1,gf,(va++(.func (.yield (w.heap.size+1)) #[] #[]::vc)).toArray,W1,
   hW1▸run_enterLoop_outer fn a.tmps ps asg body,?_,λ_ _=>trivial,?_,λhx=>Bool.noConfusion hx,mv.2 (hcw.mono ?_)⟩
  ·simp only[resolve,e1]
   simp[go_sem,Deferred.ofValue]
  ·have:va.toArray++#[.func (.yield (w.heap.size+1)) #[] #[]]++vc.toArray=(va++(.func (.yield (w.heap.size+1)) #[] #[]::vc)).toArray:=by simp
   simp only[invoke,this,di hbody]
  ·rintro ex w2 ⟨v,ρ',O',rfl,hX2,_,hH2,hs2⟩
   obtain⟨own,O3,hT,hC,hH3,_⟩:=hH2.take hp
   have hi2:=hX2.1 _ _ hi1
   have hXX:Ext ρ ρ' h.nx h'.nx:=by
    have:=Ext.trans (Nat.le_succ _) hle hX1 hX2
    rwa [←hnx3] at this
   cases hC with
   |lp hi3 hE3 hlx3 hw3=>
    rename_i l' D m Lr st pe
    rw[hi2] at hi3
    cases hi3
    have hs3:=hs2.perm (take_left hT (dfC w.heap.size::(M++F))).perm
    obtain⟨f2,tmps2,hl2,hfr2⟩:=hs3.see List.mem_cons_self
    have hnb:st≠ .busy:=by cases hlx3<;>(intro h;cases h)
    refine⟨pe,_,run_endLoop hl2 hnb,?_⟩
    have hs4:=(hs3.gJ (st':=.exhausted) (pe':=pe) (f:=f2) hfr2).drop
    have hst':St k ρ' e' B OB h' R F {a with defers:=iZ w.heap.size++a.defers} (w2.putObj (w.heap.size+1) (.loop {state:=.exhausted,pending:=pe,fn:=f2,tmps:=tmps2,params:=ps'.toArray,assign:=asg',body:=body',defers:=D})):=
     ⟨L,O3,dfC w.heap.size::M,hE.mono hXX.1,hH3,.cons hM,⟨hfr.size,rfl,λt v ht=>hfr.get t v ht⟩,hs4⟩
    cases hlx3 with
    |on=>exact⟨by rw[hxx];trivial,ρ',hXX,hst'⟩
    |rt=>exact wpIn_ret ⟨by rw[hxx];trivial,ρ',hXX,hst'⟩
    |ex j=>exact wpIn_exit ⟨by rw[hxx];rfl,ρ',hXX,hst'⟩
theorem DY{y:Bool}{c:Code}: ∀(f:Nat),(∀g,g<=f->kQ X R (lU X g))-> ∀{e:Tr} {h:Hp} {x:Xt} {e':Tr} {h':Hp},lU X (f+1) y (.loop c) e B h=some (x,e',h')->
 h.nx<=h'.nx/\ ∀(ro:Option Nat) (k:Nat) (ρ:Rho) (OB F:List Own) (a:Act) (w:World),codeOk k c=true->(y=true->ro=none)->Nw ρ h.nx h'.nx->St k ρ e B OB h R F a w->
  ∀(Q:Exit->Act->World->Prop),(∀ex a' w',Aft X R k ρ B OB F h.nx x e' h' ex a' w'->Q ex a' w')->x≠ .nm->Code.roundsIn (fw ro) 0 X.P c Q (f+1) a w
 |f,hall,e,h,x,e',h',hm=>by
  have hm:tF (λe h=>lU X f y (.loop c) e B h) (lU X f y c e B h)=some (x,e',h'):=hm
  rcases o8 hm with⟨e1,h1,hr1,hr2⟩|⟨hr1,hx⟩
  ·obtain⟨hle1,hw1⟩:=hall f (Nat.le_refl _) _ _ _ _ _ _ _ _ hr1
   cases f with
   |zero=>cases hr2
   |succ g=>
    obtain⟨hle2,hw2⟩:=DY g (λj hj=>hall j ao) hr2
    refine⟨Nat.le_trans hle1 hle2,λro k ρ OB F a w hc hy hN hst Q hQ hx=>?_⟩
    rw[roundsIn_succ]
    refine wpIn_mono (hw1 ro k ρ OB F a w hc hy (hN.sub (Nat.le_refl _) hle2) hst) λex a' w' hq=>?_
    obtain⟨hex,ρ1,hX1,hst1⟩:=hq
    obtain rfl:=tM hex
    refine hw2 ro k ρ1 OB F a' w' hc hy ((hN.sub hle1 (Nat.le_refl _)).ext hX1 (.inl (Nat.le_refl _))) hst1 Q (λex a2 w2 hq=>hQ ex a2 w2 ?_) hx
    obtain⟨hex2,ρ2,hX2,hst2⟩:=hq
    exact⟨hex2,ρ2,Ext.trans hle1 hle2 hX1 hX2,hst2⟩
  ·obtain⟨hle1,hw1⟩:=hall f (Nat.le_refl _) _ _ _ _ _ _ _ _ hr1
   refine⟨hle1,λro k ρ OB F a w hc hy hN hst Q hQ hx'=>?_⟩
   rw[roundsIn_succ]
   exact wpIn_mono (hw1 ro k ρ OB F a w hc hy hN hst) λex a' w' hq=>ET hq.1 hx (hQ ex a' w' hq)
theorem wq{y:Bool}{c:Code}: ∀(f:Nat) {e:Tr} {h:Hp} {x:Xt} {e':Tr} {h':Hp},lU X f y (.loop c) e B h=some (x,e',h')->x≠ .nm
 |0,_,_,_,_,_,hm=>by cases hm
 |f+1,e,h,x,e',h',hm=>by
  have hm:tF (λe h=>lU X f y (.loop c) e B h) (lU X f y c e B h)=some (x,e',h'):=hm
  rcases o8 hm with⟨e1,h1,_,hr2⟩|⟨_,hx⟩
  ·exact wq f hr2
  ·exact hx
theorem yz(hX:gB X R): ∀(f:Nat),∀g,g<=f->kQ X R (lU X g)
 |0,g,hg=>by
  obtain rfl:g=0:=by omega
  intro y c e B h x e' h' hm
  cases hm
 |f+1,g,hg=>by
  have hall:=yz hX f
  rcases Nat.lt_or_ge g (f+1) with h1|h1
  ·exact hall g ao
  obtain rfl:g=f+1:=by omega
  have hrc:=hall f (Nat.le_refl _)
  intro y c e B h x e' h' hm
  have hm:(xc X c).f (lU X f) y e B h=some (x,e',h'):=hm
  cases c with
  |skip=>
   have hm:some (Xt.nm,e,h)=some (x,e',h'):=hm
   cases hm
   exact⟨Nat.le_refl _,λro k ρ OB F a w _ _ _ hst=>wpIn_skip ⟨trivial,ρ,Ext.refl ..,hst⟩⟩
  |region id ops draw=>
   cases draw with
   |false=>
    obtain⟨q,hq,hm⟩:=ah (show nmA (FV X (lU X f) y B (Co X ops) e h)=some (x,e',h') from hm)
    cases hm
    have hle:h.nx<=q.2.nx:=by
     have:=Od hX hrc (ops:=ops) ops.toList hq
     exact this
    refine⟨hle,λro k ρ OB F a w hc hy hN hst=>wpIn_region_list ?_⟩
    exact(DT hX hrc hy ops.toList (uH hc) hq).2 ρ OB F a w _ hN hst λρ' a' w' hX' hst'=>⟨trivial,ρ',hX',hst'⟩
   |true=>
    have hm:MZ X (lU X f) ops (xr X ops) e B h=some (x,e',h'):=hm
    exact⟨(E3 (ro:=none) (id:=id) hX hrc hm).1,λro k ρ OB F a w hc hy hN hst=>(E3 (ro:=ro) (id:=id) hX hrc hm).2 k ρ OB F a w hc hN hst⟩
  |seq c d=>
   obtain⟨hle,hw⟩:=OO hrc (show tF (λe h=>lU X f y d e B h) (lU X f y c e B h)=some (x,e',h') from hm)
   exact⟨hle,λro k ρ OB F a w hc hy hN hst=>hw ro k ρ OB F a w (bZ hc).1 (bZ hc).2 hy hN hst⟩
  |cond g c d=>
   obtain⟨hle,hw⟩:=Mx hrc (show(bnd (opv e g) λv=>bnd (Ef v) (JD y e B h (lU X f) c d))=some (x,e',h') from hm)
   exact⟨hle,λro k ρ OB F a w hc hy hN hst=>hw ro k ρ OB F a w (bZ hc).1 (bZ hc).2 hy hN hst⟩
  |block id c=>
   obtain⟨hle,hw⟩:=IV hrc (show yU id (lU X f y c e B h)=some (x,e',h') from hm)
   exact⟨hle,λro k ρ OB F a w hc hy hN hst=>hw ro k ρ OB F a w hc hy hN hst⟩
  |loop c=>
   have hm:lU X (f+1) y (.loop c) e B h=some (x,e',h'):=hm
   obtain⟨hle,hw⟩:=DY f hall hm
   exact⟨hle,λro k ρ OB F a w hc hy hN hst=>wpIn_loop_rounds (f+1) (hw ro k ρ OB F a w hc hy hN hst _ (λex a' w' h=>h) (wq _ hm))⟩
  |rangeFunc g ps asg body=>
   obtain⟨hy1,hm⟩:=aI (show ifb y (bnd (opv e g) (y9 X (lU X f) e B h ps.toList asg body)) none=some (x,e',h') from hm)
   obtain⟨v,hv,hm⟩:=ah hm
   obtain⟨hle,hw⟩:=If hX hrc hv hm
   exact⟨hle,λro k ρ OB F a w hc hy hN hst=>by
    obtain rfl:=hy hy1
    exact hw k ρ OB F a w hc hN hst⟩
  |exit id=>
   have hm:some (Xt.ex id,e,h)=some (x,e',h'):=hm
   cases hm
   exact⟨Nat.le_refl _,λro k ρ OB F a w _ _ _ hst=>wpIn_exit ⟨rfl,ρ,Ext.refl ..,hst⟩⟩
  |ret=>
   have hm:some (Xt.rt,e,h)=some (x,e',h'):=hm
   cases hm
   exact⟨Nat.le_refl _,λro k ρ OB F a w _ _ _ hst=>wpIn_ret ⟨trivial,ρ,Ext.refl ..,hst⟩⟩
  |_=>cases hm
end
end Go.Ex
namespace Go.Ex
open Go
noncomputable section
abbrev KF:=List AV->Bs->Hp->Option (AV×Hp)
structure BQ where
 t:Nat
 cs:List AV
 s:List Nat
 h:Hp
def NT(i off:Nat):AV->Bool
 | .np=>true
 | .pt j o=>Nat.beq i j&&Nat.beq off o
 |_=>false
def Qz(u t:Nat)(cs:List AV)(n:Nat)(q:Ch×Hp):Option BQ:=match q.1 with
 | .byt v s=>ifb (Nat.beq v u&&Nat.beq n (ln s)) (some ⟨t,cs,s,q.2⟩) none
 |_=>none
def RA(B:Bs)(u t:Nat)(cs:List AV)(h:Hp):AV->Option BQ
 | .ns=>some ⟨t,cs,[],h⟩
 | .ac j o n=>ifb (Nat.beq o 0) (bnd (h.take B j) (Qz u t cs n)) none
 |_=>none
def RB(B:Bs)(u i off:Nat)(q:Ch×Hp):Option BQ:=match q.1 with
 | .row t cs=>bnd (nth cs off) λa=>ifb (NT i off a) (bnd (nth cs (off+1)) (RA B u t cs q.2)) none
 |_=>none
def PS(B:Bs)(h:Hp)(u i off:Nat):Option BQ:=bnd (h.take B i) (RB B u i off)
def SC(u i off:Nat)(s:List Nat)(q:BQ):Option (AV×Hp):=ifb (Nat.ble (ln q.s+ln s) 1000000) (fN (ln (app q.s s)) λn=>fN (Nat.succ q.h.nx) λnx=>
 some (.tu [.it .i64 (Int.ofNat (ln s)),.ni],⟨(i,.row q.t (nG q.cs off [.pt i off,.ac q.h.nx 0 n]))::(q.h.nx,.byt u (app q.s s))::q.h.cur,q.h.ff,nx,q.h.lv⟩)) none
def QB(P:Program)(tB off:Nat)(q:BQ):Bool:=liesAt P P.depth q.t (ln q.cs/P.cellsOf q.t) off tB 1
def dE(P:Program)(u tB:Nat)(l:List AV)(B:Bs)(h:Hp):Option (AV×Hp):=match l with
 | [.pt i off,.st s]=>bnd (PS B h u i off) λq=>ifb (QB P tB off q) (SC u i off s q) none
 |_=>none
def jh(u:Nat)(l:List AV)(B:Bs)(h:Hp):Option (AV×Hp):=match l with
 | [.pt i off]=>bnd (PS B h u i off) λq=>some (.st q.s,q.h.put i (.row q.t q.cs))
 |_=>none
def jl(l:List AV)(_:Bs)(h:Hp):Option (AV×Hp):=match l with
 | [.st s,.it .i64 n]=>bnd (toN n) λn=>ifb (Nat.ble n 1000000&&Nat.ble (ln s*n) 1000000) (some (.st (rep s n),h)) none
 |_=>none
def nu(c:Nat):Nat:=ifb (Nat.beq (Nat.mod c 2) 1) (Nat.xor (Nat.div c 2) 0xEDB88320) (Nat.div c 2)
def OQ(c:Nat):Nat:=nu (nu (nu (nu (nu (nu (nu (nu c)))))))
def KR(l:List Nat):Nat->Nat:=List.rec (λc=>c) (λb _ ih c=>fN (OQ (Nat.xor c b)) ih) l
def wc(l:List AV)(_:Bs)(h:Hp):Option (AV×Hp):=match l with
 | [.st s]=>ifb (Nat.ble (ln s) 1000000) (fN (Nat.xor (KR s 0xFFFFFFFF) 0xFFFFFFFF) λc=>some (.it .u32 (Int.ofNat c),h)) none
 |_=>none
def idxOf(c:Nat):List Nat->Nat->AV
 | [],_=>.it .i64 (-1)
 |a::r,i=>ifb (Nat.beq a c) (.it .i64 (Int.ofNat i)) (idxOf c r (i+1))
def nn(l:List AV)(_:Bs)(h:Hp):Option (AV×Hp):=match l with
 | [.st s,.it .u8 n]=>bnd (toN n) λc=>ifb (Nat.blt c 256) (some (idxOf c s 0,h)) none
 |_=>none
def NQ(i off:Nat)(n:Int)(q:Ch×Hp):Option (AV×Hp):=match q.1 with
 | .row t cs=>match nth cs off with
   |some (.it .i64 m)=>bnd (it .i64 (IntKind.i64.wrap (m+n))) λr=>some (r,q.2.put i (.row t (nG cs off [r])))
   |_=>none
 |_=>none
def gH(l:List AV)(B:Bs)(h:Hp):Option (AV×Hp):=match l with
 | [.pt i off,.it .i64 n]=>bnd (h.take B i) (NQ i off n)
 |_=>none
def ew(l:List AV)(_:Bs)(h:Hp):Option (AV×Hp):=match l with
 | []=>some (.bo true,h)
 |_=>none
def fR{α:Type}:List (Nat×α)->Nat->Option α
 | [],_=>none
 |q::r,i=>ifb (Nat.beq q.1 i) (some q.2) (fR r i)
def h0:Hp:=⟨[],[],0,8⟩
def iU:Option (AV×Hp)->Bool
 |some (.bo true,_)=>true
 |_=>false
end
end Go.Ex
namespace Go.Ex
open Go Go.SL
section
variable{ρ:Rho}{X:Fx}{P:Program}{R:List RO}{O F:List Own}{e:Tr}{B:Bs}{OB:List Own}{h h':Hp}
theorem jv(hX:gB X R){f g:Nat}(hb:cZ X.P g=true)(hm:iU (mr X f g [] [] h0)=true){POST:Value->List RO->List Own->Prop}(hk:POST (.bool true) R O):Fun X.P g #[] R O POST:=by
 intro w hs
 cases hr:mr X f g [] [] h0 with
 |none=>rw[hr] at hm;cases hm
 |some q=>
  rw[hr] at hm
  have hq1:q.1= .bo true:=by
   obtain⟨a,h⟩:=q
   cases a with
   |bo b=>cases b with
    |true=>rfl
    |false=>cases hm
   |_=>cases hm
  obtain⟨_,hC⟩:=kF hX (yz hX f f (Nat.le_refl _)) (show sr X (lU X f) g [] [] h0=some q from hr)
  have hH:HR rhN [] [] h0 []:=⟨.nil,[],.nil,rfl⟩
  have hcw:=hC rhN [] [] O [] w .nil hH (λi _ _=>rfl) hs
  have key: ∀e w',Jn rhN [] [] h0.nx q R O e w'-> ∃v R' O',e= .returned v/\POST v R' O'/\Sat R' O' w':=by
   rintro e w' ⟨v,ρ',O',rfl,_,hv,_,hs'⟩
   rw[hq1] at hv
   cases hv
   exact⟨_,R,O,rfl,hk,ls hs'⟩
  rcases hcw with⟨_,hcw⟩|⟨v,w',hrun,_⟩
  ·exact hcw.mono key
  ·rw[di hb] at hrun;cases hrun
def kq(P:Program)(R:List RO)(g:Nat)(k:KF):Prop:= ∀(args:List AV) (B:Bs) (h:Hp) (q:AV×Hp),k args B h=some q->h.nx<=q.2.nx/\rp P R g args B h q
theorem rB{α:Type}{k:α}: ∀{l:List (Nat×α)} {g:Nat},fR l g=some k-> ∃x∈l,x.1=g/\x.2=k
 | [],_,h=>by cases h
 |x::r,g,hk=>by
  have hk:ifb (Nat.beq x.1 g) (some x.2) (fR r g)=some k:=hk
  rcases cH hk with⟨h1,h2⟩|⟨_,h2⟩
  ·cases h2
   exact⟨x,List.mem_cons_self,eD h1,rfl⟩
  ·obtain⟨y,hy,hh⟩:=rB h2
   exact⟨y,List.mem_cons_of_mem _ hy,hh⟩
theorem jS{l:List (Nat×List KQ)}(h:gu (λx=>qOk P x.1 x.2) l=true): ∀t ks,fR l t=some ks->qOk P t ks=true:=λt ks hk=>by
 obtain⟨x,hx,rfl,rfl⟩:=rB hk
 exact uH h x hx
theorem sy.of{l:List (Nat×KF)}(h: ∀x∈l,kq P R x.1 x.2){X:Fx}(hP:X.P=P)(hK:X.K=fR l):sy X R:=by
 intro g k hk
 rw[hK] at hk
 subst hP
 obtain⟨x,hx,rfl,rfl⟩:=rB hk
 exact h x hx
theorem kq.still{g:Nat}{k:KF}(hb:cZ P g=true)(hk: ∀(args:List AV) (B:Bs) (h:Hp) (q:AV×Hp),k args B h=some q->q.2=h/\ ∀(ρ:Rho) (vs:List Value),VRs ρ args vs-> ∃v,VR ρ q.1 v/\ ∀(O:List Own),Fun P g vs.toArray R O λv' R' O'=>v'=v/\R'=R/\O'=O):kq P R g k:=by
 intro args B h q hq
 obtain⟨h1,h2⟩:=hk args B h q hq
 rw[h1]
 refine⟨Nat.le_refl _,λρ OB O F vs w hvs H hN hs=>.inl ⟨hb,?_⟩⟩
 obtain⟨v,hv,hF⟩:=h2 ρ vs hvs
 refine(hF (O++F) w hs).mono ?_
 rintro e w' ⟨v',R',O',rfl,⟨rfl,rfl,rfl⟩,hs'⟩
 exact⟨_,ρ,O,rfl,by rw[h1];exact Ext.refl ..,hv,by rw[h1];exact H,hs'⟩
theorem cq{g:Nat}(hb:cZ P g=true)(hF: ∀(O:List Own) (POST:Value->List RO->List Own->Prop),POST (.bool true) R O->Fun P g #[] R O POST):kq P R g ew:=by
 refine .still hb λargs B h q hq=>?_
 cases args with
 |nil=>
  cases hq
  refine⟨rfl,λρ vs hvs=>?_⟩
  cases hvs
  exact⟨_,.bo true,λO=>hF O _ ⟨rfl,rfl,rfl⟩⟩
 |cons a r=>cases hq
theorem indexByte_ge: ∀(l:List UInt8) (c:UInt8), -1<=Lib.indexByte l c
 | [],_=>by show(-1:Int)<= -1;omega
 |b::l,c=>by
  have ih:=indexByte_ge l c
  show(-1:Int)<=if b==c then 0 else if Lib.indexByte l c== -1 then -1 else Lib.indexByte l c+1
  split
  ·omega
  ·split<;>omega
theorem A2{c:Nat}(hc:c<256): ∀{s:List Nat} (i:Nat),(∀n∈s,n<256)->idxOf c s i= .it .i64 (if Lib.indexByte (txt s) (UInt8.ofNat c)== -1 then -1 else Lib.indexByte (txt s) (UInt8.ofNat c)+(i:Int))
 | [],i,_=>rfl
 |a::r,i,h=>by
  have ha:=h a List.mem_cons_self
  have ih:=A2 hc (s:=r) (i+1) λn hn=>h n (List.mem_cons_of_mem _ hn)
  show ifb (Nat.beq a c) (.it .i64 (Int.ofNat i)) (idxOf c r (i+1))=_
  rw[bA,ih]
  show _=AV.it .i64 (if(if UInt8.ofNat a==UInt8.ofNat c then(0:Int) else if Lib.indexByte (txt r) (UInt8.ofNat c)== -1 then -1 else Lib.indexByte (txt r) (UInt8.ofNat c)+1)== -1 then -1 else(if UInt8.ofNat a==UInt8.ofNat c then(0:Int) else if Lib.indexByte (txt r) (UInt8.ofNat c)== -1 then -1 else Lib.indexByte (txt r) (UInt8.ofNat c)+1)+(i:Int))
  have e1:(UInt8.ofNat a==UInt8.ofNat c)=Nat.beq a c:=by
   rw[Bool.eq_iff_iff,beq_iff_eq,Nat.beq_eq]
   exact⟨Dj ha hc,λh=>by rw[h]⟩
  rw[e1]
  cases Nat.beq a c
  ·simp only[Bool.false_eq_true,if_false]
   generalize hz:Lib.indexByte (txt r) (UInt8.ofNat c)=z
   have hnn:=indexByte_ge (txt r) (UInt8.ofNat c)
   rw[hz] at hnn
   by_cases hz1:z= -1
   ·subst hz1;rfl
   ·have hz2:(z== -1)=false:=by simpa using hz1
    have hz3:(z+1== -1)=false:=by simp;omega
    simp only[hz2,Bool.false_eq_true,if_false,hz3]
    congr 1
    push_cast
    omega
  ·simp
theorem iH{g:Nat}{fn:Func}(hf:P.funcs[g]? =some fn)(hname:(fn.name== "runtime.NumGoroutine")=false)(hb:fn.body.isNone=true)(hn:Extern.findNext fn=none)(he:Extern.find fn=some Extern.BytealgIndexByte.indexByte):kq P R g nn:=by
 intro args B h q hq
 unfold nn at hq
 split at hq
 ·rename_i s n
  obtain⟨c,hc,hq⟩:=ah hq
  obtain⟨hlt,hq⟩:=aI hq
  have hlt:=Nat.le_of_ble_eq_true hlt
  cases hq
  refine⟨Nat.le_refl _,λρ OB O F vs w hvs H hN hs=>.inr ?_⟩
  cases hvs with
  |cons h1 hr=>
   cases hr with
   |cons h2 hr=>
    cases hr
    cases h1 with
    |st hst=>
     cases h2
     obtain rfl:=jt hc
     have hrun:=Lib.run_indexByteString (P:=P) ⟨(txt s).toArray⟩ (c:Int) w
     have h3:=run_callFunc_extern hf hname hb hn he #[.string ⟨(txt s).toArray⟩,.int .u8 (c:Int)] w
     rw[hrun,Result.andThen_ok] at h3
     refine⟨_,_,h3,_,ρ,O,rfl,Ext.refl ..,?_,H,hs⟩
     show VR ρ (idxOf c s 0) _
     rw[A2 (show c<256 from hlt) 0 hst]
     have e2:(if Lib.indexByte (txt s) (UInt8.ofNat c)== -1 then -1 else Lib.indexByte (txt s) (UInt8.ofNat c)+((0:Nat):Int))=Lib.indexByte (txt s) (UInt8.ofNat c):=by
      split
      ·rename_i h;exact(by simpa using h:Lib.indexByte (txt s) (UInt8.ofNat c)= -1).symm
      ·simp
     rw[e2]
     exact .it _ _
 ·cases hq
theorem eT{g:Nat}{fn:Func}(hf:P.funcs[g]? =some fn)(hname:(fn.name== "runtime.NumGoroutine")=false)(hb:fn.body.isNone=true)(hn:Extern.findNext fn=none)(he:Extern.find fn=some (Extern.Atomic.update (Op.intArith .add) .i64 true)):kq P R g gH:=by
 intro args B h q hq
 unfold gH at hq
 split at hq
 ·rename_i i off n
  obtain⟨p,hp,hq⟩:=ah hq
  obtain⟨ch,h1⟩:=p
  have hnx:=eh hp
  unfold NQ at hq
  split at hq
  ·rename_i t cs heq
   have heq:ch= .row t cs:=heq
   subst heq
   split at hq
   ·rename_i m hm
    obtain⟨r,hr,hq⟩:=ah hq
    rw[iI] at hr
    cases hr
    cases hq
    have hnx:h1.nx=h.nx:=hnx
    refine⟨Nat.le_of_eq hnx.symm,λρ OB O F vs w hvs H hN hs=>.inr ?_⟩
    cases hvs with
    |cons h1 hr=>
     cases hr with
     |cons h2 hr=>
      cases hr
      cases h1 with
      |pt hi=>
       rename_i b
       cases h2
       obtain⟨own,O',hT,hC,hH,_⟩:=H.take hp
       cases hC with
       |row hi' hv=>
        rename_i b' vs
        rw[hi] at hi';cases hi'
        have hc:=hv.int hm
        have hs':=hs.perm (take_left hT F).perm
        have hpr:(az b t vs).pred w:=hs'.see List.mem_cons_self
        have hlt:off<vs.length:=(List.getElem?_eq_some_iff.1 hc).1
        have cQ:=cy hpr hc
        have hfree:=kB hpr off
        have hsum:(Op.intArith .add .i64 m n).run P w= .ok (.int .i64 (IntKind.i64.wrap (m+n))) w:=by simp[Op.intArith]
        have hrun:=run_call_add (P:=P) hf hname hb hn .i64 he (y:=n) cQ hfree hsum
        have hlt':b<w.heap.size:=hs'.lt b (by simp[owned,az])
        have hspl:Go.SL.spl vs off [.int .i64 (IntKind.i64.wrap (m+n))]=vs.set off (.int .i64 (IntKind.i64.wrap (m+n))):=by
         unfold Go.SL.spl
         rw[List.set_eq_take_append_cons_drop,if_pos hlt]
         simp
        refine⟨_,_,hrun,_,ρ,az b t (Go.SL.spl vs off [.int .i64 (IntKind.i64.wrap (m+n))])::O',rfl,Ext.refl ..,.it _ _,hH.put (.row hi (hv.spl (.cons (.it _ _) .nil) _)),?_⟩
        rw[hspl]
        refine hs'.update _ ⟨rfl,rfl,rfl,by simp,λj hj hne=>heap_setCell_other w _ _ _ (by simpa [az,eq_comm] using hne)⟩ (by simp[az]) (by simpa [az] using hlt') (by simp[az]) (λw'' ha _=>?_)
        show w''.heap[b]? =_
        rw[ha.2.2.2.2 b (by simpa using hlt') (by simp[az])]
        exact lj hpr off _
   ·cases hq
  ·cases hq
 ·cases hq
end
end Go.Ex
namespace Go.Proofs.YtebpkhlifcffnaaGreatDoor
open Go Go.SL Go.Ex
section
variable{ρ:Rho}{R:List RO}{O F:List Own}{B:Bs}{OB:List Own}{h h':Go.Ex.Hp}
theorem K4(c:Nat):nu c=st c:=by
 show ifb (Nat.beq (Nat.mod c 2) 1) (Nat.xor (Nat.div c 2) 0xEDB88320) (Nat.div c 2)=c/2 ^^^ (if c%2=1 then 3988292384 else 0)
 rw[bA]
 by_cases h:c%2=1
 ·rw[if_pos (by rw[Nat.beq_eq];exact h),if_pos h];rfl
 ·rw[if_neg (by rw[Nat.beq_eq];exact h),if_neg h,Nat.xor_zero];rfl
theorem M4(c:Nat):OQ c=stn 8 c:=by
 show nu (nu (nu (nu (nu (nu (nu (nu c)))))))=_
 simp only[K4]
 rfl
theorem Ew: ∀(s:List Nat) (r:Nat),(∀n∈s,n<256)->KR s r=reg r (txt s)
 | [],_,_=>rfl
 |b::s,r,h=>by
  have hb:=h b List.mem_cons_self
  show fN (OQ (Nat.xor r b)) (KR s)=reg (stb r (UInt8.ofNat b)) (txt s)
  rw[dz,Ew s _ λn hn=>h n (List.mem_cons_of_mem _ hn),M4]
  have:(UInt8.ofNat b).toNat=b:=by simp[Nat.mod_eq_of_lt hb]
  rw[stb,this];rfl
theorem Ku{r:Nat}(h:r<2^32):r ^^^ 4294967295=4294967295-r:=by
 apply Nat.eq_of_testBit_eq
 intro i
 have e:4294967295-r=2^32-(r+1):=by omega
 rw[e,Nat.testBit_two_pow_sub_succ h,Nat.testBit_xor,show 4294967295=2^32-1 from rfl,Nat.testBit_two_pow_sub_one]
 by_cases hi:i<32
 ·simp[hi]
 ·have:r.testBit i=false:=Nat.testBit_lt_two_pow (Nat.lt_of_lt_of_le h (Nat.pow_le_pow_right ct ao))
  simp[hi,this]
theorem k9(ht:ea∈R):kq Tryz.prog R 127 wc:=by
 refine .still an λargs B h q hq=>?_
 unfold wc at hq
 split at hq
 ·rename_i s
  obtain⟨hl,hq⟩:=aI hq
  have hl:=Nat.le_of_ble_eq_true hl
  rw[cN] at hl
  rw[dz] at hq
  cases hq
  refine⟨rfl,λρ vs hvs=>?_⟩
  cases hvs with
  |cons h1 hr=>
   cases hr
   cases h1 with
   |st hst=>
    refine⟨.int .u32 (dx (txt s):Nat),?_,λO=>lk ht (by simp[txt];omega) ⟨rfl,rfl,rfl⟩⟩
    have e1:Nat.xor (KR s 0xFFFFFFFF) 0xFFFFFFFF=dx (txt s):=by
     rw[Ew s _ hst]
     show reg 4294967295 (txt s) ^^^ 4294967295=_
     rw[Ku (CZ _ ct)]
     rfl
    rw[e1]
    exact .it _ _
 ·cases hq
theorem se(s:List Nat): ∀n,Lib.repeatL (txt s) n=txt (rep s n)
 |0=>rfl
 |n+1=>by
  show txt s++Lib.repeatL (txt s) n=txt (app s (rep s n))
  rw[se s n,fp,txt,txt,txt,List.map_append]
theorem fL:kq Tryz.prog R 46 jl:=by
 refine .still an λargs B h q hq=>?_
 unfold jl at hq
 split at hq
 ·rename_i s n
  obtain⟨m,hm,hq⟩:=ah hq
  obtain⟨hl,hq⟩:=aI hq
  obtain⟨hm1,hl⟩:=bZ hl
  have hl:=Nat.le_of_ble_eq_true hl
  have hm1:=Nat.le_of_ble_eq_true hm1
  rw[cN] at hl
  cases hq
  refine⟨rfl,λρ vs hvs=>?_⟩
  cases hvs with
  |cons h1 hr=>
   cases hr with
   |cons h2 hr=>
    cases hr
    cases h2
    cases h1 with
    |st hst=>
     obtain rfl:=jt hm
     refine⟨vs (txt (rep s m)),.st ?_,λO=>?_⟩
     ·rw[CB]
      intro n hn
      obtain⟨l,hl,hn⟩:=List.mem_flatten.1 hn
      rw[List.eq_of_mem_replicate hl] at hn
      exact hst n hn
     ·have:=λw=>Tryz.strings_Repeat ⟨(txt s).toArray⟩ m w ao (by show(txt s).toArray.size*_<=_;simp[txt];omega)
      refine Fun.below (v:=vs (txt (rep s m))) (λw=>?_) ⟨rfl,rfl,rfl⟩
      have h1:=this w
      rw[show(ByteArray.mk (txt s).toArray).data.toList=txt s from rfl,se] at h1
      exact h1
 ·cases hq
theorem E8{u i off:Nat}{q:BQ}(hq:PS B h u i off=some q)(hN:q.h.nx=h.nx->True):
 q.h.nx=h.nx/\(∀n∈q.s,True)/\ ∀(ρ:Rho) (OB O:List Own),HR ρ B OB h O-> ∀{b:Nat},ρ i=some (.b b)-> ∃cs p v O',VRs ρ q.cs cs/\(p= .pointer none∨p=fu b off)/\cs[off]? =some p/\cs[off+1]? =some v/\HR ρ B OB q.h O'/\(∀n∈q.s,n<256)/\
  ∀(R:List RO) (F:List Own) (w:World),Sat R (O++F) w->Sat R (az b q.t cs::bt u 1 (SL.one vy) v (txt q.s)::(O'++F)) w:=by
 obtain⟨p,hp,hq⟩:=ah hq
 obtain⟨ch,h1⟩:=p
 have hnx:=eh hp
 unfold RB at hq
 split at hq
 ·rename_i t cs heq
  have heq:ch= .row t cs:=heq
  subst heq
  obtain⟨a,ha,hq⟩:=ah hq
  obtain⟨hself,hq⟩:=aI hq
  obtain⟨b2,hb2,hq⟩:=ah hq
  have hself':a= .np∨a= .pt i off:=by
   unfold NT at hself
   split at hself
   ·exact .inl rfl
   ·obtain⟨h1,h2⟩:=bZ hself
    rw[eD h1,eD h2];exact .inr rfl
   ·cases hself
  have hp2: ∀{ρ:Rho} {vs:List Value} {b:Nat},VRs ρ cs vs->ρ i=some (.b b)-> ∃p,(p= .pointer none∨p=fu b off)/\vs[off]? =some p:=λhv hi=>by
   rw[gN] at ha
   obtain⟨u,hu,hvu⟩:=hv.get ha
   rcases hself' with rfl|rfl
   ·cases hvu;exact⟨_,.inl rfl,hu⟩
   ·cases hvu with
    |pt hi'=>rw[hi] at hi';cases hi';exact⟨_,.inr rfl,hu⟩
  unfold RA at hq
  split at hq
  ·cases hq
   refine⟨hnx,λ_ _=>trivial,λρ OB O H b hi=>?_⟩
   obtain⟨own,O',hT,hC,hH,_⟩:=H.take hp
   cases hC with
   |row hi' hv=>
    rw[hi] at hi';cases hi'
    obtain⟨p,hp1,hp2⟩:=hp2 hv hi
    rw[gN] at hb2
    obtain⟨v,hv1,hv2⟩:=hv.get hb2
    cases hv2
    refine⟨_,p,_,O',hv,hp1,hp2,hv1,hH,λn hn=>absurd hn List.not_mem_nil,λR F w hs=>?_⟩
    have hs1:=hs.perm (take_left hT F).perm
    have hs2:Sat R (bt u 1 (SL.one vy) (.slice none 0 0) (txt [])::(az b t _::(O'++F))) w:=hs1.emp _ rfl λw=>World.ownsRow_nil w 0 _ _
    exact hs2.perm (List.Perm.swap ..)
  ·rename_i j o n
   obtain⟨ho,hq⟩:=aI hq
   obtain rfl:=eD ho
   obtain⟨p2,hp3,hq⟩:=ah hq
   obtain⟨ch2,h2⟩:=p2
   have hnx2:=eh hp3
   unfold Qz at hq
   split at hq
   ·rename_i tv s heq
    have heq:ch2= .byt tv s:=heq
    subst heq
    obtain⟨hc,hq⟩:=aI hq
    cases hq
    obtain⟨hc1,hc2⟩:=bZ hc
    obtain rfl:=eD hc1
    have hc2:=eD hc2
    rw[cN] at hc2
    subst hc2
    refine⟨by show h2.nx=h.nx;have z1:h2.nx=h1.nx:=hnx2;have z2:h1.nx=h.nx:=hnx;omega,λ_ _=>trivial,λρ OB O H b hi=>?_⟩
    obtain⟨own,O',hT,hC,hH,_⟩:=H.take hp
    cases hC with
    |row hi' hv=>
     rw[hi] at hi';cases hi'
     obtain⟨p,hp1,hp2⟩:=hp2 hv hi
     rw[gN] at hb2
     obtain⟨v,hv1,hv2⟩:=hv.get hb2
     obtain⟨own2,O2,hT2,hC2,hH2,_⟩:=hH.take hp3
     cases hC2 with
     |byt hj hlt=>
      rename_i cap og
      have hvs:v=slv og s.length cap:=by
       generalize hsl:s.length=n at hv2
       cases hv2 with
       |ac0 hj'=>rw[hj] at hj';cases hj';rfl
       |ac hj' _ hcap=>
        rw[hj] at hj';cases hj'
        rw[hcap rfl];rfl
      subst hvs
      refine⟨_,p,_,O2,hv,hp1,hp2,hv1,hH2,hlt,λR F w hs=>?_⟩
      have hs1:=hs.perm (take_left hT F).perm
      exact hs1.perm (List.Perm.cons _ (take_left hT2 F).perm)
   ·cases hq
  ·cases hq
 ·cases hq
theorem M3{u:Nat}{v:Value}{bs:List UInt8}{w:World}(h:(bt u 1 (SL.one vy) v bs).pred w): ∃og cap,v=slv og bs.length cap:=by
 obtain⟨_,h⟩:=h
 rcases h with⟨rfl,h0⟩|⟨g,cap,cur,rfl,_⟩
 ·exact⟨none,0,rfl⟩
 ·exact⟨some g,cap,rfl⟩
theorem OH{ρ:Rho}{og:Option Nat}{cap i n:Nat}(hi:ρ i=some (.s og cap)){u:Nat}{bs:List UInt8}{w:World}(hn:bs.length=n)(h:(bt u 1 (SL.one vy) (slv og bs.length cap) bs).pred w):VR ρ (.ac i 0 n) (slv og bs.length cap):=by
 obtain⟨_,h⟩:=h
 rcases h with⟨h1,h0⟩|⟨g,cap',cur,h1,_,_,h2,_⟩
 ·cases og with
  |none=>
   have:n=0:=by rw[←hn];exact h0
   subst this
   exact .ac0 hi
  |some g=>cases h1
 ·cases og with
  |none=>cases h1
  |some g'=>
   simp only[slv,Value.slice.injEq,Option.some.injEq,Addr.mk.injEq,and_true,true_and] at h1
   obtain⟨rfl,rfl⟩:=h1
   rw[hn] at h2⊢
   exact .ac hi h2 λ_=>rfl
theorem EI{cs:List Value}{off:Nat}{a b:Value}(h:off+1<cs.length):Go.SL.spl cs off [a,b]=(cs.set off a).set (off+1) b:=by
 apply List.ext_getElem?
 intro i
 rw[Go.SL.spl,List.getElem?_set,List.getElem?_set,List.length_set]
 by_cases h1:i<off
 ·rw[if_neg ao,if_neg ao,List.append_assoc,List.getElem?_append_left (by rw[List.length_take];omega),List.getElem?_take_of_lt h1]
 ·rw[List.append_assoc,List.getElem?_append_right (by rw[List.length_take];omega),List.length_take,Nat.min_eq_left ao]
  by_cases h2:i=off
  ·subst h2;rw[if_neg ao,if_pos rfl,if_pos ao];simp
  ·by_cases h3:i=off+1
   ·subst h3;rw[if_pos rfl,if_pos ao,show off+1-off=1 from by omega];simp
   ·rw[if_neg ao,if_neg ao,List.getElem?_append_right (by simp;omega),List.getElem?_drop]
    congr 1
    simp only[List.length_cons,List.length_nil];omega
theorem dq:kq Tryz.prog R 69 (dE Tryz.prog 5 141):=by
 intro args B h q hq
 unfold dE at hq
 split at hq
 ·rename_i i off s
  obtain⟨q1,hq1,hq⟩:=ah hq
  obtain⟨hlies,hq⟩:=aI hq
  obtain⟨hlen,hq⟩:=aI hq
  have hlen:=Nat.le_of_ble_eq_true hlen
  rw[cN,cN] at hlen
  rw[dz,dz] at hq
  cases hq
  obtain⟨hnx,_,hget⟩:=E8 hq1 (λ_=>trivial)
  refine⟨by show h.nx<=q1.h.nx+1;omega,λρ OB O F vs w hvs H hN hs=>.inl ⟨by kernel_rfl,?_⟩⟩
  have hN:Nw ρ h.nx (q1.h.nx+1):=hN
  cases hvs with
  |cons h1 hr=>
   cases hr with
   |cons h2 hr=>
    cases hr
    cases h1 with
    |pt hi=>
     rename_i b
     cases h2 with
     |st hst=>
      obtain⟨cs,p,v,O',hcs,hp,hp1,hv1,hH,hlt,hsat⟩:=hget ρ OB O H hi
      have hln:ln q1.cs=cs.length:=by rw[cN,hcs.length]
      have hlies':liesAt Tryz.prog Tryz.prog.depth q1.t (cs.length/Tryz.prog.cellsOf q1.t) off 141 1=true:=by
       rw[←hln];exact hlies
      have hoff:off+1<cs.length:=(List.getElem?_eq_some_iff.1 hv1).1
      refine(lV (POST:=λv2 R' O2=>v2= .tuple #[.int .i64 (txt s).length,.nilIface]/\R'=R/\ ∃v',O2=az b q1.t ((cs.set off (fu b off)).set (off+1) v')::bt 5 1 (SL.one vy) v' (txt q1.s++txt s)::(O'++F)) hp hp1 hv1 hlies' (by simp[txt];omega) (λv' _=>⟨rfl,rfl,v',rfl⟩) w (hsat R F w hs)).mono ?_
      rintro e w' ⟨v2,R',O2,rfl,⟨rfl,rfl,v',rfl⟩,hs'⟩
      have hacc:=hs'.see (List.mem_cons_of_mem _ List.mem_cons_self)
      have ets:txt q1.s++txt s=txt (app q1.s s):=by rw[fp,txt,txt,txt,List.map_append]
      rw[ets] at hacc hs'
      obtain⟨og,cap,rfl⟩:=M3 hacc
      have htl:(txt (app q1.s s)).length=ln (app q1.s s):=by rw[cN];simp[txt]
      have hX:=Ext.set (hN h.nx (Nat.le_refl _) ao) (.s og cap)
      have hset:(ρ.set h.nx (.s og cap)) h.nx=some (.s og cap):=cI ..
      have hi2:=hX.1 _ _ hi
      have hlt2: ∀n∈app q1.s s,n<256:=λn hn=>by
       rw[fp] at hn
       rcases List.mem_append.1 hn with h|h
       ·exact hlt n h
       ·exact hst n h
      have hac:=OH hset htl hacc
      have hrow:VRs (ρ.set h.nx (.s og cap)) (nG q1.cs off [.pt i off,.ac h.nx 0 (ln (app q1.s s))]) ((cs.set off (fu b off)).set (off+1) (slv og (txt (app q1.s s)).length cap)):=by
       rw[←EI hoff]
       exact(hcs.mono hX.1).spl (.cons (.pt hi2) (.cons hac .nil)) _
      have hbyt:CR (ρ.set h.nx (.s og cap)) h.nx (.byt 5 (app q1.s s)) (bt 5 1 (SL.one vy) (slv og (txt (app q1.s s)).length cap) (txt (app q1.s s))):=by
       have:=CR.byt (t:=5) hset hlt2
       rw[show(app q1.s s).length=(txt (app q1.s s)).length from by simp[txt]] at this
       exact this
      refine⟨_,ρ.set h.nx (.s og cap),az b q1.t _::bt 5 1 (SL.one vy) _ _::O',rfl,?_,?_,?_,hs'⟩
      ·show Ext ρ _ h.nx (q1.h.nx+1)
       rw[hnx];exact hX
      ·have:((txt s).length:Int)=Int.ofNat (ln s):=by rw[cN];simp[txt]
       rw[this]
       exact .tu (.cons (.it _ _) (.cons .ni .nil))
      ·rw[hnx]
       exact((hH.mono hX.1).put hbyt).put (.row hi2 hrow)
 ·cases hq
theorem fQ:kq Tryz.prog R 70 (jh 5):=by
 intro args B h q hq
 unfold jh at hq
 split at hq
 ·rename_i i off
  obtain⟨q1,hq1,hq⟩:=ah hq
  cases hq
  obtain⟨hnx,_,hget⟩:=E8 hq1 (λ_=>trivial)
  refine⟨by show h.nx<=q1.h.nx;omega,λρ OB O F vs w hvs H hN hs=>.inl ⟨by kernel_rfl,?_⟩⟩
  cases hvs with
  |cons h1 hr=>
   cases hr
   cases h1 with
   |pt hi=>
    rename_i b
    obtain⟨cs,p,v,O',hcs,hp,hp1,hv1,hH,hlt,hsat⟩:=hget ρ OB O H hi
    refine(om (POST:=λv2 R' O2=>v2=Go.SL.vs (txt q1.s)/\R'=R/\O2=az b q1.t cs::(O'++F)) hv1 ⟨rfl,rfl,rfl⟩ w (hsat R F w hs)).mono ?_
    rintro e w' ⟨v2,R',O2,rfl,⟨rfl,rfl,rfl⟩,hs'⟩
    refine⟨_,ρ,az b q1.t cs::O',rfl,?_,.st hlt,hH.put (.row hi hcs),hs'⟩
    exact Ext.refl ..
 ·cases hq
end
end Go.Proofs.YtebpkhlifcffnaaGreatDoor
namespace Go.Proofs.YtebpkhlifcffnaaGreatDoor
open Go Go.SL
abbrev vw(n:Nat):Value:=.int .u32 (n:Int)
def qX(x n:Nat):Nat:=(x*2^(32-n)%2^32) ||| (x/2^n)
def ad(a b:Nat):Nat:=(a+b)%4294967296
theorem nB(a b:Nat):ad a b<2^32:=Nat.mod_lt _ ct
theorem ei{x:Nat}(h:x<2^32)(n:Nat):qX x n<2^32:=Nat.or_lt_two_pow (Nat.mod_lt _ ct) (Nat.lt_of_le_of_lt (Nat.div_le_self _ _) h)
theorem Lg(a b:Nat):IntKind.u32.wrap ((a:Int)+b)=((ad a b:Nat):Int):=by
 rw[ad];simp only[IntKind.wrap,IntKind.signed,IntKind.bits,Bool.false_and,Bool.false_eq_true,if_false];omega
theorem _root_.Go.SL.fT{P:Program}{o:Oper}{L:Env}{R:List RO}{O:List Own}{t t':TypeId}{x y:Operand}{a b:Nat}(ho:o.op= .binOp .add t x y t')(hx:ev L x=some (vw a))(hy:ev L y=some (vw b)):Rd P o L R O (vw (ad a b)):=
 Ni ho hx hy (Lg a b)
theorem Rj(n:Nat)(h:0<n/\n<32):(18446744073709551616-n) &&& 31=32-n:=by
 rw[show(31:Nat)=2^5-1 from rfl,Nat.and_two_pow_sub_one_eq_mod];omega
set_option maxRecDepth 20000 in
theorem FL{R:List RO}{O:List Own}{POST:Value->List RO->List Own->Prop}{x n:Nat}(hx:x<2^32)(hn:0<n/\n<32)
 (hk:POST (vw (qX x n)) R O):Fun Tryz.prog 286 #[vw x,.int .i64 (-(n:Int))] R O POST:=by
 refine aC (l:=[_,_]) Tryz.func286 rfl Tryz.ntmps286 rfl (L0:=[(0,_),(1,_)]) rfl ?_
 refine aD<|ar rfl<|a7<|af rfl<|ab rfl (cX rfl rfl Tryz.underlying71 (hS:=Tryz.underlying3)) ?_
 refine aU 7 (u:=.int .u64 ((18446744073709551616-n:Nat):Int)) rfl (by congr 1;simp only[IntKind.wrap,IntKind.signed,IntKind.bits,Bool.false_and,Bool.false_eq_true,if_false];omega) ?_
 refine ab rfl (iP (b:=31) rfl rfl rfl rfl rfl rfl (show _<18446744073709551616 by omega) ct) ?_
 refine aU 8 (u:=.int .u64 ((32-n:Nat):Int)) rfl (by rw[Rj n hn]) ?_
 refine ar rfl<|a7<|af rfl<|af rfl<|ab rfl (BH (a:=x) (m:=32-n) rfl rfl rfl rfl rfl ao) ?_
 refine af rfl<|af rfl<|ab rfl (Nj (r:=(n:Int)) rfl rfl rfl (by rw[wrap_u64 ao];omega)) ?_
 refine ab rfl (cu (a:=x) (n:=n) rfl rfl rfl rfl rfl (by show n<=32;omega)) ?_
 refine ab rfl (ze rfl rfl rfl rfl rfl rfl (Nat.mod_lt _ ct) (Nat.lt_of_le_of_lt (Nat.div_le_self _ _) hx)) ?_
 refine ar rfl<|aw<|WC.ret (Ret.one Tryz.results286 rfl ?_)
 exact hk
set_option maxRecDepth 20000 in
theorem eC{R:List RO}{O:List Own}{POST:Value->List RO->List Own->Prop}{x n:Nat}(hx:x<2^32)(hn:0<n/\n<32)
 (hk:POST (vw (qX x n)) R O):Fun Tryz.prog 236 #[vw x,.int .i64 (n:Int)] R O POST:=by
 refine aC (l:=[_,_]) Tryz.func236 rfl Tryz.ntmps236 rfl (L0:=[(0,_),(1,_)]) rfl ?_
 refine aD<|ar rfl<|a7<|af rfl<|af rfl<|ab rfl (Rd.neg rfl rfl ao) ?_
 refine aq rfl<|aj rfl rfl aZ an rfl rfl rfl ?_
 refine FL hx hn ?_
 refine ar rfl<|aw<|WC.ret (Ret.one Tryz.results236 rfl ?_)
 exact hk
def sg0(x:Nat):Nat:=qX x 7 ^^^ qX x 18 ^^^ x/2^3
def sg1(x:Nat):Nat:=qX x 17 ^^^ qX x 19 ^^^ x/2^10
theorem NJ{x:Nat}(h:x<2^32)(n:Nat):x/2^n<2^32:=Nat.lt_of_le_of_lt (Nat.div_le_self _ _) h
def l7(s:List UInt8)(p:Nat):Nat->Nat
 |0=>0
 |k+1=>l7 s p k*256+s[p+k]!.toNat
theorem tS(s:List UInt8)(p:Nat): ∀k,l7 s p k<256^k
 |0=>by rw[l7];decide
 |k+1=>by
  have h:=tS s p k
  have hc:=UInt8.toNat_lt s[p+k]!
  rw[l7,Nat.pow_succ];omega
def Qp(w:List Nat)(i:Nat):Nat:=ad (ad (ad w[i-16]! w[i-7]!) (sg0 w[i-15]!)) (sg1 w[i-2]!)
def sched(s:List UInt8):Nat->List Nat
 |0=>[]
 |i+1=>sched s i++[if i<16 then l7 s (4*i) 4 else Qp (sched s i) i]
theorem PQ{l:List Nat}:((l.map vw).all Value.oneCell')=true:=by
 rw[List.all_eq_true];intro x hx;obtain⟨n,_,rfl⟩:=List.mem_map.1 hx;rfl
theorem ey(s:List UInt8): ∀i,(sched s i).length=i
 |0=>rfl
 |i+1=>by rw[sched,List.length_append,ey s i];rfl
theorem zV(s:List UInt8): ∀i,∀x∈sched s i,x<2^32
 |0,x,h=>by cases h
 |i+1,x,h=>by
  rw[sched] at h
  rcases List.mem_append.1 h with h|h
  ·exact zV s i x h
  ·simp only[List.mem_singleton] at h
   subst h
   split
   ·exact Nat.lt_of_lt_of_le (tS s _ 4) ct
   ·exact nB _ _
theorem mC(s:List UInt8){i j:Nat}(h:j<i):(sched s i)[j]! <2^32:=by
 rw[getElem!_pos _ _ (by rw[ey];exact h)];exact zV s i _ (List.getElem_mem _)
def sK(s:List UInt8)(i:Nat):List Value:=(sched s i).map vw++List.replicate (64-i) (vw 0)
theorem Hv{s:List UInt8}{i n:Nat}(h:i<64):(sK s i).set i (vw n)=(sched s i).map vw++vw n::List.replicate (63-i) (vw 0):=by
 rw[sK,List.set_append_right _ _ (by rw[List.length_map,ey];exact Nat.le_refl _),List.length_map,ey,Nat.sub_self,show 64-i=(63-i)+1 from by omega,List.replicate_succ];rfl
theorem wy{s:List UInt8}{i n:Nat}(h:i<64)(hn:n=if i<16 then l7 s (4*i) 4 else Qp (sched s i) i):(sched s i).map vw++vw n::List.replicate (63-i) (vw 0)=sK s (i+1):=by
 rw[sK,sched,List.map_append,←hn,show 64-(i+1)=63-i from by omega,List.append_assoc];rfl
theorem Gm{s:List UInt8}{i:Nat}(h:i<64):sK s i=(sched s i).map vw++vw (l7 s (4*i) 0)::List.replicate (63-i) (vw 0):=by
 rw[sK,show 64-i=(63-i)+1 from by omega,List.replicate_succ];rfl
theorem kP(s:List UInt8){i j:Nat}(h:j<i):((sched s i).map vw)[j]? =some (vw (sched s i)[j]!):=by
 rw[List.getElem?_map,get!_of_lt (by rw[ey];exact h)];rfl
theorem DQ{α:Type}(x:List α)(y:α)(z:List α){k:Nat}(h:x.length=k):(x++y::z)[k]? =some y:=by subst h;rw[List.getElem?_append_right (Nat.le_refl _),Nat.sub_self];rfl
theorem E6{α:Type}(x:List α)(y v:α)(z:List α){k:Nat}(h:x.length=k):(x++y::z).set k v=x++v::z:=by subst h;rw[List.set_append_right _ _ (Nat.le_refl _),Nat.sub_self];rfl
theorem MJ{a:Nat}(ha:a<256^3)(c:UInt8):(a*2^8%2^32) ||| c.toNat=a*256+c.toNat:=by
 rw[Nat.mod_eq_of_lt ao,Nat.mul_comm a,←Nat.two_pow_add_eq_or_of_lt (UInt8.toNat_lt c)]
set_option maxRecDepth 20000 in
set_option maxHeartbeats 4000000 in
theorem BY{R:List RO}{O:List Own}{POST:Value->List RO->List Own->Prop}{s:List UInt8}(hs:s.length=64)
 (hk:POST (.agg ((sched s 64).map vw).toArray) R O):Fun Tryz.prog 235 #[vs s] R O POST:=by
 refine Fun.thin (post':=λv R' O'=>v= .agg ((sched s 64).map vw).toArray/\R'=R/\ ∃b,O'=az b 343 ((sched s 64).map vw)::O) ?_ (by rintro v R' O' ⟨rfl,rfl,b,rfl⟩;exact⟨_,O,hk,λw h=>h.drop⟩)
 refine aC (l:=[_]) Tryz.func235 rfl Tryz.ntmps235 rfl (L0:=[(0,_)]) rfl ?_
 refine aD<|aq rfl<|OpW.alloc rfl Rm rfl ba rfl rfl ?_;intro b2
 refine a7<|aq rfl<|OpW.alloc rfl Rm rfl ba rfl rfl ?_;intro b3
 refine aw<|bd<|af rfl<|aw ?_
 refine WC.block ?_
 refine WC.pick [9,0,2,3] eS ?_
 refine WC.iJ 1 (λ(i:Nat)=>[(9,.int .i64 (i:Int))]) (λ(i:Nat)=>az b3 343 (sK s i)::az b2 343 (List.replicate 64 (vw 0))::O) (λ(i:Nat)=>i<=16) (λ(i:Nat)=>16-i) (0) iw ?hinv1 cC (λ_ h=>h) ?_
 case hinv1=>
  exact Nat.zero_le _
 intro i
 rintro i1
 refine aD<|ab rfl (Rd.lss rfl rfl rfl)<|aw ?_
 refine aF<|aE rfl (λhc1=>?_) (λhc1=>?_)
 ·
  refine WC.heap (λw h=>by rw[Gm ao] at h;exact h) ?_
  refine ay<|aa<|aF<|WC.block ?_
  refine aD<|af rfl<|ar rfl<|a7<|af rfl<|aw ?_
  refine WC.block ?_
  refine WC.pick [12,0,2,3,4,9] eS ?_
  refine WC.iJ 1 (λ(k:Nat)=>[(12,.int .i64 (k:Int))]) (λ(k:Nat)=>az b3 343 ((sched s i).map vw++vw (l7 s (4*i) k)::List.replicate (63-i) (vw 0))::az b2 343 (List.replicate 64 (vw 0))::O) (λ(k:Nat)=>k<=4) (λ(k:Nat)=>4-k) (0) iw ?hinv2 cC (λ_ h=>h) ?_
  case hinv2=>
   exact Nat.zero_le _
  intro k
  rintro k1
  refine aD<|ab rfl (Rd.lss rfl rfl rfl)<|aw ?_
  refine aF<|aE rfl (λhc2=>?_) (λhc2=>?_)
  ·
   have hw:=tS s (4*i) k
   have hw3:l7 s (4*i) k<256^3:=Nat.lt_of_lt_of_le hw (Nat.pow_le_pow_right ct ao)
   have hml:((sched s i).map vw).length=i:=by rw[List.length_map,ey]
   have hcl:((sched s i).map vw++vw (l7 s (4*i) k)::List.replicate (63-i) (vw 0)).length=64:=by rw[List.length_append,hml,List.length_cons,List.length_replicate];omega
   have hc:s[4*i+k]!.toNat<2^32:=Nat.lt_trans (UInt8.toNat_lt _) ct
   refine ay<|aa<|aF<|WC.block ?_
   refine aD<|af rfl<|ar rfl<|aw ?_
   refine WC.tail 14 mixed an ?_
   refine bn rfl (al rfl rfl)<|bn rfl (al rfl rfl)<|bn rfl (by exact bg (k:=i) rfl x5 rfl rfl ao ao) ?_
   refine bn rfl (ax rfl fC rfl aK (DQ _ _ _ hml)) ?_
   refine bn rfl (BH (a:=l7 s (4*i) k) (m:=8) rfl rfl rfl rfl rfl ct) ?_
   refine bn rfl (al rfl rfl)<|bn rfl (al rfl rfl)<|bn rfl (Rd.mul rfl rfl rfl ao) ?_
   refine bn rfl (al rfl rfl)<|bn rfl (Rd.add rfl rfl rfl ao) ?_
   refine bn rfl (fb (k:=4*i+k) rfl Tryz.underlying9 rfl rfl ao (by exact get!_of_lt ao)) ?_
   refine bn rfl (ck rfl rfl Tryz.underlying194 (c6 rfl hc) (hS:=Tryz.underlying5)) ?_
   refine bn rfl (ze rfl rfl rfl rfl rfl rfl (Nat.mod_lt _ ct) hc) ?_
   refine WS.say 27 (u:=vw (l7 s (4*i) (k+1))) rfl (by rw[MJ hw3];rfl) ?_
   refine bn rfl (by exact bg (k:=i) rfl x5 rfl rfl ao ao) ?_
   refine dm<|aq rfl<|aV rfl Pw rfl rfl (by exact⟨rfl,rfl⟩) bh ao rfl ?_
   refine WL.heap (λw h=>by rw[E6 _ _ _ _ hml] at h;exact h) ?_
   refine aG<|aA<|aa<|aB<|ab rfl (Rd.add rfl rfl rfl ao) ?_
   exact af rfl<|aG<|bq.mk (k+1) ao ao cC bN
  ·
   refine WC.exit<|au.exit<|bq.exit<|aH.exit<|aA<|aa<|aB<|ab rfl (Rd.add rfl rfl rfl ao) ?_
   refine af rfl<|aG ?_
   obtain rfl:k=4:=by omega
   exact bq.mk (i+1) ao ao cC (λw h=>by rw[←wy (n:=l7 s (4*i) 4) ao (by rw[if_pos ao])];exact dj h)
 ·
  refine WC.exit<|au.exit<|bq.exit<|aH.exit<|aa<|bd<|ar rfl<|aw ?_
  refine WC.block ?_
  refine WC.pick [6,2,3] eS ?_
  refine WC.iJ 1 (λ(j:Nat)=>[(6,.int .i64 (j:Int))]) (λ(j:Nat)=>az b3 343 (sK s j)::az b2 343 (List.replicate 64 (vw 0))::O) (λ(j:Nat)=>16<=j/\j<=64) (λ(j:Nat)=>64-j) (16) iw ?hinv3 cC (λw h=>by
  obtain rfl:i=16:=by omega
  exact dj h) ?_
  case hinv3=>
   exact⟨Nat.le_refl _,by omega⟩
  intro j
  rintro⟨j1,j2⟩
  refine bd<|af rfl<|ab rfl (Rd.lss rfl rfl rfl)<|aw ?_
  refine aE rfl (λhc3=>?_) (λhc3=>?_)
  ·
   have g15:=mC s (i:=j) (j:=j-15) ao
   have g2:=mC s (i:=j) (j:=j-2) ao
   have hml:((sched s j).map vw).length=j:=by rw[List.length_map,ey]
   have hwl:(sK s j).length=64:=by rw[sK,List.length_append,hml,List.length_replicate];omega
   refine ay<|aa<|aF<|WC.block ?_
   refine aF<|WC.still mixed an ?_
   refine dP rfl (al rfl rfl)<|dP rfl (Rd.sub rfl rfl rfl ao) ?_
   refine dP rfl (by exact bg (k:=j-15) rfl x5 rfl rfl ao ao) ?_
   refine dP rfl (ax rfl fC rfl aK (bX _ _ (kP s ao))) ?_
   refine dP rfl (al rfl rfl)<|dP rfl (Rd.sub rfl rfl rfl ao) ?_
   refine dP rfl (by exact bg (k:=j-2) rfl x5 rfl rfl ao ao) ?_
   refine dP rfl (ax rfl fC rfl aK (bX _ _ (kP s ao))) ?_
   refine dP rfl (Rd.assign rfl rfl)<|dP rfl (Rd.assign rfl rfl)<|WA.nil<|aa<|WC.drawn (Jy b3 ((sched s j).map vw)::az b2 343 (List.replicate 64 (vw 0))::O) 30 rfl mixed ?_
   refine ae 0 rfl an (by exact bw.see cz bh (ca bX) dI) rfl rfl rfl (al rfl rfl) ?_
   refine ae 1 rfl an (by exact bw.see cz bh (ca bX) dI) rfl rfl rfl (al rfl rfl) ?_
   refine ae 2 rfl an (by exact bw.see cz bh (ca bX) dI) rfl rfl rfl (Rd.sub rfl rfl rfl ao) ?_
   refine ae 3 rfl an (by exact bw.see cz bh (ca bX) dI) rfl rfl rfl ((by exact bg (k:=j-16) rfl x5 rfl rfl ao ao)) ?_
   refine ae 4 rfl an (by exact bw.see cz bh (ca bX) dI) rfl rfl rfl (Fp rfl fC rfl aK (kP s ao)) ?_
   refine ae 5 rfl an (by exact bw.see cz bh (ca bX) dI) rfl rfl rfl (al rfl rfl) ?_
   refine ae 6 rfl an (by exact bw.see cz bh (ca bX) dI) rfl rfl rfl (Rd.sub rfl rfl rfl ao) ?_
   refine ae 7 rfl an (by exact bw.see cz bh (ca bX) dI) rfl rfl rfl ((by exact bg (k:=j-7) rfl x5 rfl rfl ao ao)) ?_
   refine ae 8 rfl an (by exact bw.see cz bh (ca bX) dI) rfl rfl rfl (Fp rfl fC rfl aK (kP s ao)) ?_
   refine ae 9 rfl an (by exact bw.see cz bh (ca bX) dI) rfl rfl rfl (fT rfl rfl rfl) ?_
   refine ae 10 rfl an (by exact bw.see cz bh (ca bX) dI) rfl rfl rfl (al rfl rfl) ?_
   refine ae 12 rfl an (by exact bw.see cz bh (ca bX) dI) rfl rfl rfl (al rfl rfl) ?_
   refine ae 15 rfl an (by exact bw.see cz bh (ca bX) dI) rfl rfl rfl (al rfl rfl) ?_
   refine ae 16 rfl an (by exact bw.see cz bh (ca bX) dI) rfl rfl rfl (cu (a:=(sched s j)[j-15]!) (n:=3) rfl rfl rfl rfl rfl ct) ?_
   refine ae 19 rfl an (by exact bw.see cz bh (ca bX) dI) rfl rfl rfl (al rfl rfl) ?_
   refine ae 21 rfl an (by exact bw.see cz bh (ca bX) dI) rfl rfl rfl (al rfl rfl) ?_
   refine ae 24 rfl an (by exact bw.see cz bh (ca bX) dI) rfl rfl rfl (al rfl rfl) ?_
   refine ae 25 rfl an (by exact bw.see cz bh (ca bX) dI) rfl rfl rfl (cu (a:=(sched s j)[j-2]!) (n:=10) rfl rfl rfl rfl rfl ct) ?_
   refine aS 11 rfl an rfl ?_
   refine aj rfl rfl aZ an rfl rfl rfl ?_
   refine eC g15 ct ?_
   refine⟨(by exact bw.see cz bh (ca bX) dI),?_⟩
   refine aS 13 rfl an rfl ?_
   refine aj rfl rfl aZ an rfl rfl rfl ?_
   refine eC g15 ct ?_
   refine⟨(by exact bw.see cz bh (ca bX) dI),?_⟩
   refine ae 14 rfl an (by exact bw.see cz bh (ca bX) dI) rfl rfl rfl (e8 rfl rfl rfl rfl rfl rfl (ei g15 _) (ei g15 _)) ?_
   refine ae 17 rfl an (by exact bw.see cz bh (ca bX) dI) rfl rfl rfl (e8 rfl rfl rfl rfl rfl rfl (Nat.xor_lt_two_pow (ei g15 _) (ei g15 _)) (NJ g15 _)) ?_
   refine ae 18 rfl an (by exact bw.see cz bh (ca bX) dI) rfl rfl rfl (fT rfl rfl rfl) ?_
   refine aS 20 rfl an rfl ?_
   refine aj rfl rfl aZ an rfl rfl rfl ?_
   refine eC g2 ct ?_
   refine⟨(by exact bw.see cz bh (ca bX) dI),?_⟩
   refine aS 22 rfl an rfl ?_
   refine aj rfl rfl aZ an rfl rfl rfl ?_
   refine eC g2 ct ?_
   refine⟨(by exact bw.see cz bh (ca bX) dI),?_⟩
   refine ae 23 rfl an (by exact bw.see cz bh (ca bX) dI) rfl rfl rfl (e8 rfl rfl rfl rfl rfl rfl (ei g2 _) (ei g2 _)) ?_
   refine ae 26 rfl an (by exact bw.see cz bh (ca bX) dI) rfl rfl rfl (e8 rfl rfl rfl rfl rfl rfl (Nat.xor_lt_two_pow (ei g2 _) (ei g2 _)) (NJ g2 _)) ?_
   refine ae 27 rfl an (by exact bw.see cz bh (ca bX) dI) rfl rfl rfl (fT rfl rfl rfl) ?_
   refine ae 28 rfl an (by exact bw.see cz bh (ca bX) dI) rfl rfl rfl ((by exact bg (k:=j) rfl x5 rfl rfl ao ao)) ?_
   refine aS 29 rfl an rfl ?_
   refine aV rfl Pw rfl rfl (by exact⟨rfl,rfl⟩) bh ao rfl ?_
   refine⟨(by exact bw.see cz bh (ca (Ia ao)) dI),?_⟩
   refine WD.done an ?_
   refine aA<|aa<|aB<|af rfl<|ab rfl (Rd.add rfl rfl rfl ao) ?_
   exact ar rfl<|aG<|bq.mk (j+1) ⟨by omega,by omega⟩ ao cC (λw h=>by
   rw[Hv ao,wy ao (by rw[if_neg ao];rfl)] at h
   exact dj h)
  ·
   obtain rfl:j=64:=by omega
   have hwz:sK s 64=(sched s 64).map vw:=by rw[sK,Nat.sub_self,List.replicate_zero,List.append_nil]
   have hwl:((sched s 64).map vw).length=64:=by rw[List.length_map,ey]
   refine WC.heap (λw h=>by rw[hwz] at h;exact h) ?_
   refine WC.exit<|au.exit<|bq.exit<|aH.exit<|aa<|aD<|ab rfl (Fo rfl OW rfl aK hwl) ?_
   refine aq rfl<|mQ rfl OW rfl rfl bh hwl (by simp) PQ rfl ?_
   refine aw<|WC.heap (R':=R) (O':=az b2 343 ((sched s 64).map vw)::O) bN ?_
   refine WC.ret (lr Tryz.results235 rfl aK OW hwl ?_)
   exact⟨rfl,rfl,_,rfl⟩
end Go.Proofs.YtebpkhlifcffnaaGreatDoor
namespace Go.Proofs.YtebpkhlifcffnaaGreatDoor
open Go Go.SL
structure St8 where
 a:Nat
 b:Nat
 c:Nat
 d:Nat
 e:Nat
 f:Nat
 g:Nat
 h:Nat
def St8.cs(v:St8):List Value:=[vw v.a,vw v.b,vw v.c,vw v.d,vw v.e,vw v.f,vw v.g,vw v.h]
structure St8.Ok(v:St8):Prop where
 a:v.a<2^32
 b:v.b<2^32
 c:v.c<2^32
 d:v.d<2^32
 e:v.e<2^32
 f:v.f<2^32
 g:v.g<2^32
 h:v.h<2^32
def jG:St8:=⟨1779033703,3144134277,1013904242,2773480762,1359893119,2600822924,528734635,1541459225⟩
theorem G8:jG.Ok:=⟨by decide,by decide,by decide,by decide,by decide,by decide,by decide,by decide⟩
def bg1(e:Nat):Nat:=qX e 6 ^^^ qX e 11 ^^^ qX e 25
def bg0(a:Nat):Nat:=qX a 2 ^^^ qX a 13 ^^^ qX a 22
def chE(e f g:Nat):Nat:=(e &&& f) ^^^ ((4294967295-e) &&& g)
def Sb(a b c:Nat):Nat:=(a &&& b) ^^^ (a &&& c) ^^^ (b &&& c)
def tE(v:St8)(k w:Nat):Nat:=ad (ad (ad (ad v.h (bg1 v.e)) (chE v.e v.f v.g)) k) w
def uE(v:St8):Nat:=ad (bg0 v.a) (Sb v.a v.b v.c)
def St8.round(v:St8)(k w:Nat):St8:=⟨ad (tE v k w) (uE v),v.a,v.b,v.c,ad v.d (tE v k w),v.e,v.f,v.g⟩
theorem St8.Ok.round{v:St8}(h:v.Ok)(k w:Nat):(v.round k w).Ok:=⟨nB _ _,h.a,h.b,h.c,nB _ _,h.e,h.f,h.g⟩
def St8.add(v x:St8):St8:=⟨ad v.a x.a,ad v.b x.b,ad v.c x.c,ad v.d x.d,ad v.e x.e,ad v.f x.f,ad v.g x.g,ad v.h x.h⟩
theorem DB(v x:St8):(v.add x).Ok:=⟨nB _ _,nB _ _,nB _ _,nB _ _,nB _ _,nB _ _,nB _ _,nB _ _⟩
def pA:List Nat:=[
 1116352408,1899447441,3049323471,3921009573,961987163,1508970993,2453635748,2870763221,
 3624381080,310598401,607225278,1426881987,1925078388,2162078206,2614888103,3248222580,
 3835390401,4022224774,264347078,604807628,770255983,1249150122,1555081692,1996064986,
 2554220882,2821834349,2952996808,3210313671,3336571891,3584528711,113926993,338241895,
 666307205,773529912,1294757372,1396182291,1695183700,1986661051,2177026350,2456956037,
 2730485921,2820302411,3259730800,3345764771,3516065817,3600352804,4094571909,275423344,
 430227734,506948616,659060556,883997877,958139571,1322822218,1537002063,1747873779,
 1955562222,2024104815,2227730452,2361852424,2428436474,2756734187,3204031479,3329325298]
def BZ:List Int:=pA.map λn:Nat=>(n:Int)
def CO:List Value:=BZ.map λz=>.int .u32 z
abbrev db:RO:=yd 2 CO
theorem Gp{k:Nat}(h:k<64):CO[k]? =some (vw pA[k]!):=by
 have hl:pA.length=64:=by decide
 rw[CO,BZ,List.map_map,List.getElem?_map,get!_of_lt (by rw[hl];exact h)];rfl
def rounds(ws:List Nat)(v:St8):Nat->St8
 |0=>v
 |i+1=>(rounds ws v i).round pA[i]! ws[i]!
theorem xM{ws:List Nat}{v:St8}(h:v.Ok): ∀i,(rounds ws v i).Ok
 |0=>h
 |i+1=>(xM h i).round _ _
def ll(v:St8)(s:List UInt8):St8:=v.add (rounds (sched s 64) v 64)
theorem nw(v:St8)(s:List UInt8):(ll v s).Ok:=DB _ _
theorem not_lt(e:Nat):4294967295-e<2^32:=Nat.lt_of_le_of_lt (Nat.sub_le _ _) ct
theorem o7{a:Nat}(h:a<2^32)(b:Nat):a &&& b<2^32:=Nat.lt_of_le_of_lt Nat.and_le_left h
theorem _root_.Go.SL.KJ{P:Program}{o:Oper}{L:Env}{R:List RO}{O:List Own}{t:TypeId}{x:Operand}{a:Nat}(ho:o.op= .unOp .xor t x)(hx:ev L x=some (vw a))(ha:a<2^32):Rd P o L R O (vw (4294967295-a)):=
 vR (k:=.u32) ho hx rfl rfl ha rfl
def CL(v x:St8)(i:Nat):List Value:=(v.add x).cs.take i++v.cs.drop i
theorem wZ(v:St8):v.cs.length=8:=rfl
theorem Gu(v x:St8): ∀i,i<8-> ∃p q,v.cs[i]? =some (vw p)/\x.cs[i]? =some (vw q)/\(CL v x i)[i]? =some (vw p)/\(CL v x i).set i (vw (ad p q))=CL v x (i+1)
 |0,_=>⟨_,_,rfl,rfl,rfl,rfl⟩
 |1,_=>⟨_,_,rfl,rfl,rfl,rfl⟩
 |2,_=>⟨_,_,rfl,rfl,rfl,rfl⟩
 |3,_=>⟨_,_,rfl,rfl,rfl,rfl⟩
 |4,_=>⟨_,_,rfl,rfl,rfl,rfl⟩
 |5,_=>⟨_,_,rfl,rfl,rfl,rfl⟩
 |6,_=>⟨_,_,rfl,rfl,rfl,rfl⟩
 |7,_=>⟨_,_,rfl,rfl,rfl,rfl⟩
 |i+8,h=>by omega
set_option maxRecDepth 20000 in
set_option maxHeartbeats 4000000 in
theorem nj{R:List RO}{O:List Own}{POST:Value->List RO->List Own->Prop}{v:St8}{s:List UInt8}(hr:db∈R)(hv:v.Ok)(hs:s.length=64)
 (hk:POST (.agg (ll v s).cs.toArray) R O):Fun Tryz.prog 194 #[.agg v.cs.toArray,vs s] R O POST:=by
 refine Fun.thin (post':=λr R' O'=>r= .agg (ll v s).cs.toArray/\R'=R/\ ∃b,O'=az b 236 (ll v s).cs::O) ?_ (by rintro r R' O' ⟨rfl,rfl,b,rfl⟩;exact⟨_,O,hk,λw h=>h.drop⟩)
 refine aC (l:=[_,_]) Tryz.func194 rfl Tryz.ntmps194 rfl (L0:=[(0,_),(1,_)]) rfl ?_
 refine aD<|aq rfl<|OpW.box rfl rfl ba rfl rfl ?_;intro b2
 refine aq rfl<|OpW.alloc rfl JB rfl ba rfl rfl ?_;intro b4
 refine a7<|ab rfl (by exact bj rfl qk rfl aK ba rfl) ?_
 refine aq rfl<|OpW.alloc rfl JB rfl ba rfl rfl ?_;intro b5
 refine aq rfl<|aM rfl qk rfl rfl ba bh rfl rfl ba rfl ?_
 refine aw<|bd<|af rfl ?_
 refine aq rfl<|aj rfl rfl aZ an rfl rfl rfl ?_
 refine BY hs ?_
 refine af rfl<|aw<|WC.block ?_
 refine WC.pick [14,2,4,5,13] eS ?_
 refine WC.iJ 1 (λ(i:Nat)=>[(14,.int .i64 (i:Int))]) (λ(i:Nat)=>az b5 236 (rounds (sched s 64) v i).cs::az b4 236 (List.replicate 8 (vw 0))::az b2 236 v.cs::O) (λ(i:Nat)=>i<=64) (λ(i:Nat)=>64-i) (0) iw ?hinv1 cC (λ_ h=>h) ?_
 case hinv1=>
  exact Nat.zero_le _
 intro i
 rintro i1
 obtain⟨x,hx⟩: ∃x,x=rounds (sched s 64) v i:=⟨_,rfl⟩
 have hxo:=xM (ws:=sched s 64) hv i
 rw[←hx] at hxo⊢
 refine aD<|ab rfl (Rd.lss rfl rfl rfl)<|aw ?_
 refine aF<|aE rfl (λhc1=>?_) (λhc1=>?_)
 ·
  have hwl:=mC s (i:=64) (j:=i) ao
  have hst:rounds (sched s 64) v (i+1)=x.round pA[i]! (sched s 64)[i]! :=by rw[rounds,←hx]
  refine ay<|aa<|aF<|WC.block ?_
  refine aD<|af rfl<|ab rfl (rK (k:=i) rfl x5 fC rfl rfl ao ao (kP s ao)) ?_
  refine ar rfl<|ar rfl<|aw<|WC.pick [2,4,5,6,7,13,14] eS ?_
  refine WC.val 8 (vw (tE x pA[i]! (sched s 64)[i]!)) ?_ ?_
  ·
   refine WC.mL 34 rfl mixed ?_
   refine ae 0 rfl an bw.all rfl rfl rfl ((by exact bg (k:=7) rfl ik rfl rfl rfl ao)) ?_
   refine ae 1 rfl an bw.all rfl rfl rfl ((by exact ax rfl fC rfl aK (by rfl))) ?_
   refine ae 2 rfl an bw.all rfl rfl rfl ((by exact bg (k:=4) rfl ik rfl rfl rfl ao)) ?_
   refine ae 3 rfl an bw.all rfl rfl rfl ((by exact ax rfl fC rfl aK (by rfl))) ?_
   refine ae 5 rfl an bw.all rfl rfl rfl ((by exact bg (k:=4) rfl ik rfl rfl rfl ao)) ?_
   refine ae 6 rfl an bw.all rfl rfl rfl ((by exact ax rfl fC rfl aK (by rfl))) ?_
   refine ae 9 rfl an bw.all rfl rfl rfl ((by exact bg (k:=4) rfl ik rfl rfl rfl ao)) ?_
   refine ae 10 rfl an bw.all rfl rfl rfl ((by exact ax rfl fC rfl aK (by rfl))) ?_
   refine ae 14 rfl an bw.all rfl rfl rfl ((by exact bg (k:=4) rfl ik rfl rfl rfl ao)) ?_
   refine ae 15 rfl an bw.all rfl rfl rfl ((by exact ax rfl fC rfl aK (by rfl))) ?_
   refine ae 16 rfl an bw.all rfl rfl rfl ((by exact bg (k:=5) rfl ik rfl rfl rfl ao)) ?_
   refine ae 17 rfl an bw.all rfl rfl rfl ((by exact ax rfl fC rfl aK (by rfl))) ?_
   refine ae 18 rfl an bw.all rfl rfl rfl (iP rfl rfl rfl rfl rfl rfl hxo.e hxo.f) ?_
   refine ae 19 rfl an bw.all rfl rfl rfl ((by exact bg (k:=4) rfl ik rfl rfl rfl ao)) ?_
   refine ae 20 rfl an bw.all rfl rfl rfl ((by exact ax rfl fC rfl aK (by rfl))) ?_
   refine ae 21 rfl an bw.all rfl rfl rfl (KJ rfl rfl hxo.e) ?_
   refine ae 22 rfl an bw.all rfl rfl rfl ((by exact bg (k:=6) rfl ik rfl rfl rfl ao)) ?_
   refine ae 23 rfl an bw.all rfl rfl rfl ((by exact ax rfl fC rfl aK (by rfl))) ?_
   refine ae 24 rfl an bw.all rfl rfl rfl (iP rfl rfl rfl rfl rfl rfl (not_lt _) hxo.g) ?_
   refine ae 25 rfl an bw.all rfl rfl rfl (e8 rfl rfl rfl rfl rfl rfl (o7 hxo.e _) (o7 (not_lt _) _)) ?_
   refine ae 27 rfl an bw.all rfl rfl rfl (al rfl rfl) ?_
   refine ae 28 rfl an bw.all rfl rfl rfl ((by exact bg (k:=i) rfl x5 rfl rfl ao ao)) ?_
   refine ae 29 rfl an bw.all rfl rfl rfl (c8 rfl fC rfl hr (Gp ao)) ?_
   refine ae 31 rfl an bw.all rfl rfl rfl (al rfl rfl) ?_
   refine aS 4 rfl an rfl ?_
   refine aj rfl rfl aZ an rfl rfl rfl ?_
   refine eC hxo.e ct ?_
   refine⟨aN,?_⟩
   refine aS 7 rfl an rfl ?_
   refine aj rfl rfl aZ an rfl rfl rfl ?_
   refine eC hxo.e ct ?_
   refine⟨aN,?_⟩
   refine ae 8 rfl an aN rfl rfl rfl (e8 rfl rfl rfl rfl rfl rfl (ei hxo.e _) (ei hxo.e _)) ?_
   refine aS 11 rfl an rfl ?_
   refine aj rfl rfl aZ an rfl rfl rfl ?_
   refine eC hxo.e ct ?_
   refine⟨aN,?_⟩
   refine ae 12 rfl an aN rfl rfl rfl (e8 rfl rfl rfl rfl rfl rfl (Nat.xor_lt_two_pow (ei hxo.e _) (ei hxo.e _)) (ei hxo.e _)) ?_
   refine ae 13 rfl an aN rfl rfl rfl (fT rfl rfl rfl) ?_
   refine ae 26 rfl an aN rfl rfl rfl (fT rfl rfl rfl) ?_
   refine ae 30 rfl an aN rfl rfl rfl (fT rfl rfl rfl) ?_
   refine ae 32 rfl an aN rfl rfl rfl (fT rfl rfl rfl) ?_
   refine ae 33 rfl an aN rfl rfl rfl (Rd.assign rfl rfl) ?_
   refine WD.done an ?_
   exact⟨by repeat(first|exact Sub.nil|refine Sub.cons rfl (by rfl) ?_),by exact(λ_ h=>h.thin (cB.mem cz))⟩
  ·
   refine WC.pick [2,4,5,8,13,14] eS ?_
   refine WC.val 9 (vw (uE x)) ?_ ?_
   ·
    refine WC.mL 30 rfl mixed ?_
    refine ae 0 rfl an bw.all rfl rfl rfl ((by exact bg (k:=0) rfl ik rfl rfl rfl ao)) ?_
    refine ae 1 rfl an bw.all rfl rfl rfl ((by exact ax rfl fC rfl aK (by rfl))) ?_
    refine ae 3 rfl an bw.all rfl rfl rfl ((by exact bg (k:=0) rfl ik rfl rfl rfl ao)) ?_
    refine ae 4 rfl an bw.all rfl rfl rfl ((by exact ax rfl fC rfl aK (by rfl))) ?_
    refine ae 7 rfl an bw.all rfl rfl rfl ((by exact bg (k:=0) rfl ik rfl rfl rfl ao)) ?_
    refine ae 8 rfl an bw.all rfl rfl rfl ((by exact ax rfl fC rfl aK (by rfl))) ?_
    refine ae 11 rfl an bw.all rfl rfl rfl ((by exact bg (k:=0) rfl ik rfl rfl rfl ao)) ?_
    refine ae 12 rfl an bw.all rfl rfl rfl ((by exact ax rfl fC rfl aK (by rfl))) ?_
    refine ae 13 rfl an bw.all rfl rfl rfl ((by exact bg (k:=1) rfl ik rfl rfl rfl ao)) ?_
    refine ae 14 rfl an bw.all rfl rfl rfl ((by exact ax rfl fC rfl aK (by rfl))) ?_
    refine ae 15 rfl an bw.all rfl rfl rfl (iP rfl rfl rfl rfl rfl rfl hxo.a hxo.b) ?_
    refine ae 16 rfl an bw.all rfl rfl rfl ((by exact bg (k:=0) rfl ik rfl rfl rfl ao)) ?_
    refine ae 17 rfl an bw.all rfl rfl rfl ((by exact ax rfl fC rfl aK (by rfl))) ?_
    refine ae 18 rfl an bw.all rfl rfl rfl ((by exact bg (k:=2) rfl ik rfl rfl rfl ao)) ?_
    refine ae 19 rfl an bw.all rfl rfl rfl ((by exact ax rfl fC rfl aK (by rfl))) ?_
    refine ae 20 rfl an bw.all rfl rfl rfl (iP rfl rfl rfl rfl rfl rfl hxo.a hxo.c) ?_
    refine ae 21 rfl an bw.all rfl rfl rfl (e8 rfl rfl rfl rfl rfl rfl (o7 hxo.a _) (o7 hxo.a _)) ?_
    refine ae 22 rfl an bw.all rfl rfl rfl ((by exact bg (k:=1) rfl ik rfl rfl rfl ao)) ?_
    refine ae 23 rfl an bw.all rfl rfl rfl ((by exact ax rfl fC rfl aK (by rfl))) ?_
    refine ae 24 rfl an bw.all rfl rfl rfl ((by exact bg (k:=2) rfl ik rfl rfl rfl ao)) ?_
    refine ae 25 rfl an bw.all rfl rfl rfl ((by exact ax rfl fC rfl aK (by rfl))) ?_
    refine ae 26 rfl an bw.all rfl rfl rfl (iP rfl rfl rfl rfl rfl rfl hxo.b hxo.c) ?_
    refine ae 27 rfl an bw.all rfl rfl rfl (e8 rfl rfl rfl rfl rfl rfl (Nat.xor_lt_two_pow (o7 hxo.a _) (o7 hxo.a _)) (o7 hxo.b _)) ?_
    refine aS 2 rfl an rfl ?_
    refine aj rfl rfl aZ an rfl rfl rfl ?_
    refine eC hxo.a ct ?_
    refine⟨aN,?_⟩
    refine aS 5 rfl an rfl ?_
    refine aj rfl rfl aZ an rfl rfl rfl ?_
    refine eC hxo.a ct ?_
    refine⟨aN,?_⟩
    refine ae 6 rfl an aN rfl rfl rfl (e8 rfl rfl rfl rfl rfl rfl (ei hxo.a _) (ei hxo.a _)) ?_
    refine aS 9 rfl an rfl ?_
    refine aj rfl rfl aZ an rfl rfl rfl ?_
    refine eC hxo.a ct ?_
    refine⟨aN,?_⟩
    refine ae 10 rfl an aN rfl rfl rfl (e8 rfl rfl rfl rfl rfl rfl (Nat.xor_lt_two_pow (ei hxo.a _) (ei hxo.a _)) (ei hxo.a _)) ?_
    refine ae 28 rfl an aN rfl rfl rfl (fT rfl rfl rfl) ?_
    refine ae 29 rfl an aN rfl rfl rfl (Rd.assign rfl rfl) ?_
    refine WD.done an ?_
    exact⟨by repeat(first|exact Sub.nil|refine Sub.cons rfl (by rfl) ?_),by exact(λ_ h=>h.thin (cB.mem cz))⟩
   ·
    refine aB<|af rfl<|af rfl<|ab rfl (fT rfl rfl rfl)<|ab rfl (by exact bg (k:=0) rfl ik rfl rfl rfl ao) ?_
    refine ab rfl (by exact ax rfl fC rfl aK (by rfl)) ?_
    refine ab rfl (by exact bg (k:=1) rfl ik rfl rfl rfl ao) ?_
    refine ab rfl (by exact ax rfl fC rfl aK (by rfl)) ?_
    refine ab rfl (by exact bg (k:=2) rfl ik rfl rfl rfl ao) ?_
    refine ab rfl (by exact ax rfl fC rfl aK (by rfl)) ?_
    refine ab rfl (by exact bg (k:=3) rfl ik rfl rfl rfl ao) ?_
    refine ab rfl (by exact ax rfl fC rfl aK (by rfl)) ?_
    refine af rfl<|ab rfl (fT rfl rfl rfl)<|ab rfl (by exact bg (k:=4) rfl ik rfl rfl rfl ao) ?_
    refine ab rfl (by exact ax rfl fC rfl aK (by rfl)) ?_
    refine ab rfl (by exact bg (k:=5) rfl ik rfl rfl rfl ao) ?_
    refine ab rfl (by exact ax rfl fC rfl aK (by rfl)) ?_
    refine ab rfl (by exact bg (k:=6) rfl ik rfl rfl rfl ao) ?_
    refine ab rfl (by exact ax rfl fC rfl aK (by rfl)) ?_
    refine ab rfl (xU (ps:=[(0,_),(1,_),(2,_),(3,_),(4,_),(5,_),(6,_),(7,_)]) rfl ik JB rfl an aZ rfl fy an rfl) ?_
    refine aq rfl<|mQ (ds:=(x.round pA[i]! (sched s 64)[i]!).cs) rfl qk rfl rfl bh rfl rfl rfl rfl ?_
    refine aG<|aA<|aa<|aB<|ab rfl (Rd.add rfl rfl rfl ao) ?_
    exact af rfl<|aG<|bq.mk (i+1) ao ao cC (λw h=>by rw[hst];exact dj h)
 ·
  refine WC.exit<|au.exit<|bq.exit<|aH.exit<|aa<|bd<|af rfl<|aw ?_
  refine WC.block ?_
  refine WC.pick [101,2,4,5] eS ?_
  refine WC.iJ 1 (λ(j:Nat)=>[(101,.int .i64 (j:Int))]) (λ(j:Nat)=>az b5 236 x.cs::az b4 236 (List.replicate 8 (vw 0))::az b2 236 (CL v x j)::O) (λ(j:Nat)=>j<=8) (λ(j:Nat)=>8-j) (0) iw ?hinv2 cC (λ_ h=>h) ?_
  case hinv2=>
   exact Nat.zero_le _
  intro j
  rintro j1
  refine aD<|ab rfl (Rd.lss rfl rfl rfl)<|aw ?_
  refine aF<|aE rfl (λhc2=>?_) (λhc2=>?_)
  ·
   obtain⟨p,q,m1,m2,m3,m4⟩:=Gu v x j ao
   have m5:(CL v x j).length=8:=by rw[CL,List.length_append,List.length_take,List.length_drop,wZ,wZ];omega
   refine ay<|aa<|aF<|WC.block ?_
   refine aD<|af rfl<|ar rfl<|aw ?_
   refine WC.tail 8 mixed an ?_
   refine bn rfl (al rfl rfl)<|bn rfl (by exact bg (k:=j) rfl ik rfl rfl ao ao) ?_
   refine bn rfl (ax rfl fC rfl aK m3) ?_
   refine bn rfl (al rfl rfl)<|bn rfl (by exact bg (k:=j) rfl ik rfl rfl ao ao) ?_
   refine bn rfl (ax rfl fC rfl aK m2) ?_
   refine bn rfl (fT rfl rfl rfl)<|bn rfl (by exact bg (k:=j) rfl ik rfl rfl ao ao) ?_
   refine dm<|aq rfl<|aV rfl Pw rfl rfl (by exact⟨rfl,rfl⟩) bh ao rfl ?_
   refine WL.heap (λw h=>by rw[m4] at h;exact h) ?_
   refine aG<|aA<|aa<|aB<|ab rfl (Rd.add rfl rfl rfl ao) ?_
   exact af rfl<|aG<|bq.mk (j+1) ao ao cC bN
  ·
   obtain rfl:j=8:=by omega
   obtain rfl:i=64:=by omega
   have hfin:CL v x 8=(ll v s).cs:=by rw[hx];rfl
   refine WC.heap (λw h=>by rw[hfin] at h;exact h) ?_
   refine WC.exit<|au.exit<|bq.exit<|aH.exit<|aa<|aD<|ab rfl (Fo rfl qk rfl aK rfl) ?_
   refine aq rfl<|mQ rfl qk rfl rfl bh rfl rfl rfl rfl ?_
   refine aw<|WC.heap (R':=R) (O':=az b4 236 (ll v s).cs::O) bN ?_
   refine WC.ret (lr Tryz.results194 rfl aK qk rfl ?_)
   exact⟨rfl,rfl,_,rfl⟩
set_option maxRecDepth 20000 in
theorem Cv{R:List RO}{O:List Own}{POST:Value->List RO->List Own->Prop}(hk:POST (.agg jG.cs.toArray) R O):Fun Tryz.prog 193 #[] R O POST:=by
 refine Fun.thin (post':=λr R' O'=>r= .agg jG.cs.toArray/\R'=R/\ ∃b,O'=az b 236 jG.cs::O) ?_ (by rintro r R' O' ⟨rfl,rfl,b,rfl⟩;exact⟨_,O,hk,λw h=>h.drop⟩)
 refine aC (l:=[]) Tryz.func193 rfl Tryz.ntmps193 rfl (L0:=[]) rfl ?_
 refine aD<|aq rfl<|OpW.alloc rfl JB rfl ba rfl rfl ?_;intro b0
 refine a7<|ab rfl (xU (ps:=[(0,_),(1,_),(2,_),(3,_),(4,_),(5,_),(6,_),(7,_)]) rfl ik JB rfl an aZ rfl fy an rfl) ?_
 refine aq rfl<|mQ (ds:=jG.cs) rfl qk rfl rfl bh rfl rfl rfl rfl ?_
 refine aw<|WC.ret (lr Tryz.results193 rfl aK qk rfl ?_)
 exact⟨rfl,rfl,_,rfl⟩
end Go.Proofs.YtebpkhlifcffnaaGreatDoor
namespace Go.Proofs.YtebpkhlifcffnaaGreatDoor
open Go Go.SL
def blocks(v:St8)(r:List UInt8):St8×List UInt8:=
 if r.length<64 then(v,r) else blocks (ll v (r.take 64)) (r.drop 64)
termination_by r.length
decreasing_by rw[List.length_drop];omega
theorem iX{v:St8}{r:List UInt8}(h:r.length<64):blocks v r=(v,r):=by rw[blocks,if_pos h]
theorem j6{v:St8}{r:List UInt8}(h: ¬r.length<64):blocks v r=blocks (ll v (r.take 64)) (r.drop 64):=by rw[blocks,if_neg h]
theorem qP(v:St8)(r:List UInt8)(h:v.Ok):(blocks v r).1.Ok:=by
 by_cases h1:r.length<64
 ·rw[iX h1];exact h
 ·rw[j6 h1];exact qP _ _ (nw _ _)
termination_by r.length
decreasing_by rw[List.length_drop];omega
theorem nL(v:St8)(r:List UInt8):(blocks v r).2.length<64/\(blocks v r).2.length%64=r.length%64:=by
 by_cases h1:r.length<64
 ·rw[iX h1];exact⟨h1,rfl⟩
 ·rw[j6 h1]
  have h:=nL (ll v (r.take 64)) (r.drop 64)
  rw[List.length_drop] at h
  exact⟨h.1,by omega⟩
termination_by r.length
decreasing_by rw[List.length_drop];omega
theorem jj(v:St8)(r s:List UInt8):blocks (blocks v r).1 ((blocks v r).2++s)=blocks v (r++s):=by
 by_cases h1:r.length<64
 ·rw[iX h1]
 ·rw[j6 h1,jj (ll v (r.take 64)) (r.drop 64) s]
  have h2: ¬(r++s).length<64:=by rw[List.length_append];omega
  rw[j6 h2,List.take_append_of_le_length ao,List.drop_append_of_le_length ao]
termination_by r.length
decreasing_by rw[List.length_drop];omega
def cQ(v:St8)(g:Bool)(r:List UInt8)(n:Nat):List Value:=[vw v.a,vw v.b,vw v.c,vw v.d,vw v.e,vw v.f,vw v.g,vw v.h,.bool g,vs r,.int .i64 n]
def St8.begun(v:St8)(g:Bool):St8:=if g then v else jG
theorem tU{v:St8}{g:Bool}(h:g=true->v.Ok):(v.begun g).Ok:=by
 cases g
 ·exact G8
 ·exact h rfl
set_option maxRecDepth 20000 in
set_option maxHeartbeats 4000000 in
theorem rG{R:List RO}{O:List Own}{POST:Value->List RO->List Own->Prop}{v:St8}{g:Bool}{r s:List UInt8}{b n:Nat}(hr:db∈R)(hv:g=true->v.Ok)(hn:n+s.length<=4611686018427387904)(hrl:r.length+s.length<=4611686018427387904)
 (hk:POST (.tuple #[]) R (az b 238 (cQ (blocks (v.begun g) (r++s)).1 true (blocks (v.begun g) (r++s)).2 (n+s.length))::O)):
 Fun Tryz.prog 143 #[.pointer (some ⟨b,0,none⟩),vs s] R (az b 238 (cQ v g r n)::O) POST:=by
 refine aC (l:=[_,_]) Tryz.func143 rfl Tryz.ntmps143 rfl (L0:=[(0,_),(1,_)]) rfl ?_
 refine bd<|af rfl<|ab rfl (by exact ig rfl Tryz.underlying295 rfl rfl) ?_
 refine aw<|WC.cond rfl (λhc1=>?_) (λhc1=>?_)
 ·
  cases hc1
 ·
  refine ay<|aa<|WC.cut (α:=Unit) (λ_=>[(0,.pointer (some ⟨b,0,none⟩)),(1,vs s)]) (λ_=>R) (λ_=>az b 238 (cQ (v.begun g) true r n)::O) (λ_=>True) ?_ ?_
  ·
   refine aD<|af rfl<|ab rfl (aL rfl rfl)<|ab rfl (by exact ak rfl HO rfl rfl) ?_
   refine ab rfl (by exact ax rfl C4 rfl aK (by rfl)) ?_
   refine ab rfl (by exact Rd.not rfl rfl) ?_
   refine aw<|WC.cond rfl (λhc2=>?_) (λhc2=>?_)
   ·
    refine aB<|af rfl<|af rfl<|aq rfl<|aj rfl rfl aZ an rfl rfl rfl ?_
    refine Cv ?_
    refine ab rfl (aL rfl rfl)<|ab rfl (by exact ak rfl uZ rfl rfl) ?_
    refine aq rfl<|aM rfl qk rfl rfl ba bh rfl rfl ba rfl ?_
    refine ab rfl (aL rfl rfl)<|ab rfl (by exact ak rfl HO rfl rfl) ?_
    refine aq rfl<|aV rfl Z4 rfl rfl (by exact⟨rfl,rfl⟩) bh (by(simp;done)) rfl ?_
    refine aG ?_
    -- cut_c2 1
    obtain rfl:g=false:=by simpa using hc2
    exact⟨(),trivial,cC,bN⟩
   ·
    refine ay ?_
    -- cut_c2 2
    obtain rfl:g=true:=by simpa using hc2
    exact⟨(),trivial,cC,bN⟩
  ·
   intro _ _
   have hvo:=tU hv
   generalize v.begun g=v0 at*
   refine aD<|af rfl<|ab rfl (aL rfl rfl)<|ab rfl (by exact ak rfl vG rfl rfl) ?_
   refine ab rfl (by exact ax rfl C3 rfl aK (by rfl)) ?_
   refine af rfl<|ab rfl (cg (ts:=#[]) (ty:=0) rfl rfl Tryz.underlying9) ?_
   refine ab rfl (Rd.add rfl rfl rfl ao) ?_
   refine ab rfl (aL rfl rfl)<|ab rfl (by exact ak rfl vG rfl rfl) ?_
   refine aq rfl<|aV rfl Z3 rfl rfl (by exact⟨rfl,rfl⟩) bh (by exact of_decide_eq_true rfl) rfl ?_
   refine a7<|af rfl<|ab rfl (aL rfl rfl)<|ab rfl (by exact ak rfl nM rfl rfl) ?_
   refine ab rfl (by exact ax rfl C9 rfl aK (by rfl)) ?_
   refine af rfl<|ab rfl (cA rfl rfl rfl ao) ?_
   refine ab rfl (aL rfl rfl)<|ab rfl (by exact ak rfl nM rfl rfl) ?_
   refine aq rfl<|aV rfl Z9 rfl rfl (by exact⟨rfl,rfl⟩) bh (by exact of_decide_eq_true rfl) rfl ?_
   refine aw<|WC.block ?_
   refine WC.pick [0] eS ?_
   refine WC.ia 0 (λ(x:St8) (q:List UInt8)=>[]) (λ(x:St8) (q:List UInt8)=>az b 238 (cQ x true q (n+s.length))::O) (λ(x:St8) (q:List UInt8)=>x.Ok/\blocks x q=blocks v0 (r++s)) (λ(x:St8) (q:List UInt8)=>q.length) (v0) (r++s) iw ?hinv1 cC (λ_ h=>h) ?_
   case hinv1=>
    exact⟨hvo,rfl⟩
   intro x q
   rintro⟨h1,h2⟩
   refine bd<|af rfl<|ab rfl (aL rfl rfl)<|ab rfl (by exact ak rfl nM rfl rfl) ?_
   refine ab rfl (by exact ax rfl C9 rfl aK (by rfl)) ?_
   refine ab rfl (cg (ts:=#[]) (ty:=0) rfl rfl Tryz.underlying9) ?_
   refine ab rfl (Rd.geq rfl rfl rfl)<|aw<|aE rfl (λhc3=>?_) (λhc3=>?_)
   ·
    have hbg:=j6 (v:=x) (r:=q) ao
    refine ay<|aa<|WC.block ?_
    refine aF<|WC.drawn (O) 14 rfl mixed ?_
    refine ae 0 rfl an aN rfl rfl rfl (al rfl rfl) ?_
    refine ae 1 rfl an aN rfl rfl rfl (al rfl rfl) ?_
    refine ae 2 rfl an aN rfl rfl rfl (aL rfl rfl) ?_
    refine ae 3 rfl an aN rfl rfl rfl ((by exact ak rfl uZ rfl rfl)) ?_
    refine ae 5 rfl an aN rfl rfl rfl (al rfl rfl) ?_
    refine ae 6 rfl an aN rfl rfl rfl (aL rfl rfl) ?_
    refine ae 7 rfl an aN rfl rfl rfl ((by exact ak rfl nM rfl rfl)) ?_
    refine WD.two 4 8 rfl rfl an rfl rfl ?_ ?_
    ·
     refine OpW.rd rfl rfl ((by exact bj rfl qk rfl aK ba rfl)) ?_
     refine⟨aN,?_⟩
     refine aS 8 rfl an rfl ?_
     refine OpW.rd rfl rfl ((by exact ax rfl C9 rfl aK (by rfl))) ?_
     refine⟨aN,?_⟩
     refine ae 9 rfl an aN rfl rfl rfl (gi (hi:=64) rfl Tryz.underlying9 rfl rfl rfl ao) ?_
     refine aS 10 rfl an rfl ?_
     refine aj rfl rfl aZ an rfl rfl rfl ?_
     refine nj (v:=x) (s:=q.take 64) hr h1 (by rw[List.length_take];omega) ?_
     refine⟨aN,?_⟩
     refine ae 11 rfl an aN rfl rfl rfl (aL rfl rfl) ?_
     refine ae 12 rfl an aN rfl rfl rfl ((by exact ak rfl uZ rfl rfl)) ?_
     refine aS 13 rfl an rfl ?_
     refine aM rfl qk rfl rfl ba bh rfl rfl ba rfl ?_
     refine⟨aN,?_⟩
     refine WD.done an ?_
     refine aa<|aB<|af rfl<|af rfl<|ab rfl (aL rfl rfl)<|ab rfl (by exact ak rfl nM rfl rfl) ?_
     refine ab rfl (by exact ax rfl C9 rfl aK (by rfl)) ?_
     refine ab rfl (gh (lo:=64) rfl Tryz.underlying9 rfl rfl rfl ao) ?_
     refine ab rfl (aL rfl rfl)<|ab rfl (by exact ak rfl nM rfl rfl) ?_
     refine aq rfl<|aV rfl Z9 rfl rfl (by exact⟨rfl,rfl⟩) bh (by(simp;done)) rfl ?_
     exact aG<|aA<|bC.mk (ll x (q.take 64)) (q.drop 64) ⟨nw _ _,by rw[←h2,hbg]⟩ (by rw[List.length_drop];omega) cC bN
    ·
     refine OpW.rd rfl rfl ((by exact ax rfl C9 rfl aK (by rfl))) ?_
     refine⟨aN,?_⟩
     refine ae 9 rfl an aN rfl rfl rfl (gi (hi:=64) rfl Tryz.underlying9 rfl rfl rfl ao) ?_
     refine aS 4 rfl an rfl ?_
     refine OpW.rd rfl rfl ((by exact bj rfl qk rfl aK ba rfl)) ?_
     refine⟨aN,?_⟩
     refine aS 10 rfl an rfl ?_
     refine aj rfl rfl aZ an rfl rfl rfl ?_
     refine nj (v:=x) (s:=q.take 64) hr h1 (by rw[List.length_take];omega) ?_
     refine⟨aN,?_⟩
     refine ae 11 rfl an aN rfl rfl rfl (aL rfl rfl) ?_
     refine ae 12 rfl an aN rfl rfl rfl ((by exact ak rfl uZ rfl rfl)) ?_
     refine aS 13 rfl an rfl ?_
     refine aM rfl qk rfl rfl ba bh rfl rfl ba rfl ?_
     refine⟨aN,?_⟩
     refine WD.done an ?_
     refine aa<|aB<|af rfl<|af rfl<|ab rfl (aL rfl rfl)<|ab rfl (by exact ak rfl nM rfl rfl) ?_
     refine ab rfl (by exact ax rfl C9 rfl aK (by rfl)) ?_
     refine ab rfl (gh (lo:=64) rfl Tryz.underlying9 rfl rfl rfl ao) ?_
     refine ab rfl (aL rfl rfl)<|ab rfl (by exact ak rfl nM rfl rfl) ?_
     refine aq rfl<|aV rfl Z9 rfl rfl (by exact⟨rfl,rfl⟩) bh (by(simp;done)) rfl ?_
     exact aG<|aA<|bC.mk (ll x (q.take 64)) (q.drop 64) ⟨nw _ _,by rw[←h2,hbg]⟩ (by rw[List.length_drop];omega) cC bN
   ·
    have hbl:=iX (v:=x) (r:=q) ao
    rw[hbl] at h2
    rw[←h2] at hk
    refine WC.exit<|au.exit<|bC.exit<|aH.exit<|Ret.normal (Ret.zero Tryz.results143 ?_)
    exact hk
end Go.Proofs.YtebpkhlifcffnaaGreatDoor
namespace Go.Proofs.YtebpkhlifcffnaaGreatDoor
open Go Go.SL
def nQ(n:Nat):List UInt8:=128::List.replicate ((119-n%64)%64) 0
def yX(n i:Nat):UInt8:=UInt8.ofNat (n*8/2^(56-8*i)%256)
def cM(n:Nat):List UInt8:=(List.range 8).map (yX n)
def St8.wl(v:St8):List Nat:=[v.a,v.b,v.c,v.d,v.e,v.f,v.g,v.h]
theorem QG(v:St8):v.cs=v.wl.map vw:=rfl
def be4(n:Nat):List UInt8:=[UInt8.ofNat (n/2^24%256),UInt8.ofNat (n/2^16%256),UInt8.ofNat (n/2^8%256),UInt8.ofNat (n%256)]
def s5(v:St8):List UInt8:=v.wl.flatMap be4
def J3(v:St8)(r:List UInt8)(n:Nat):St8:=(blocks v (r++nQ n++cM n)).1
def vX(t:List UInt8):List UInt8:=s5 (J3 jG t t.length)
def jJ(v:St8)(g:Bool)(r:List UInt8)(n:Nat)(t:List UInt8):Prop:=(g=true->v.Ok)/\blocks jG t=(v.begun g,r)/\n=t.length
theorem jJ.new(v:St8):jJ v false [] 0 []:=⟨(λh=>by cases h),iX ct,rfl⟩
theorem jJ.put{v:St8}{g:Bool}{r:List UInt8}{n:Nat}{t:List UInt8}(h:jJ v g r n t)(s:List UInt8):jJ (blocks (v.begun g) (r++s)).1 true (blocks (v.begun g) (r++s)).2 (n+s.length) (t++s):=by
 obtain⟨h1,h2,h3⟩:=h
 have ha:=jj jG t s
 rw[h2] at ha
 exact⟨λ_=>qP _ _ (tU h1),by rw[←ha];rfl,by rw[h3,List.length_append]⟩
theorem jJ.rest{v:St8}{g:Bool}{r:List UInt8}{n:Nat}{t:List UInt8}(h:jJ v g r n t):r.length<64/\r.length%64=n%64:=by
 have h1:=nL jG t
 rw[h.2.1,←h.2.2] at h1
 exact h1
theorem jJ.sum{v:St8}{g:Bool}{r:List UInt8}{n:Nat}{t:List UInt8}(h:jJ v g r n t):s5 (J3 (v.begun g) r n)=vX t:=by
 have ha:=jj jG t (nQ n++cM n)
 rw[h.2.1] at ha
 rw[vX,J3,J3,←h.2.2,List.append_assoc,ha,List.append_assoc]
theorem nJ(n:Nat):(cM n).length=8:=by simp[cM]
theorem HC{n i:Nat}(hi:i<7):(n/2^(56-8*i)*8%256) ||| (n/2^(48-8*i) &&& 255)/2^5=n*8/2^(56-8*i)%256:=by
 obtain⟨q,hq⟩: ∃q,q=n/2^(48-8*i):=⟨_,rfl⟩
 have e1:n/2^(56-8*i)=q/256:=by
  rw[hq,Nat.div_div_eq_div_mul,show 56-8*i=(48-8*i)+8 from by omega,Nat.pow_add]
 have e2:n*8/2^(56-8*i)=q/32:=by
  rw[hq,Nat.div_div_eq_div_mul,show 56-8*i=((48-8*i)+5)+3 from by omega,Nat.pow_add _ _ 3,Nat.mul_div_mul_right _ _ ct,Nat.pow_add]
 rw[e1,e2,←hq,show(255:Nat)=2^8-1 from rfl,Nat.and_two_pow_sub_one_eq_mod]
 have e3:q/256*8%256=2^3*(q/256%32):=by omega
 rw[e3,←Nat.two_pow_add_eq_or_of_lt ao]
 omega
theorem F8(n:Nat):n/2^(56-8*7)*8%256=n*8/2^(56-8*7)%256:=by simp
def qc(n i:Nat):List Value:=((List.range i).map (yX n)).map vy++List.replicate (8-i) (vy 0)
theorem Iz{n i:Nat}(h:i<8)(c:UInt8):(qc n i).set i (vy c)=((List.range i).map (yX n)).map vy++vy c::List.replicate (7-i) (vy 0):=by
 rw[qc,List.set_append_right _ _ (by simp),List.length_map,List.length_map,List.length_range,Nat.sub_self,show 8-i=(7-i)+1 from by omega,List.replicate_succ];rfl
theorem wA{n i:Nat}(h:i<8):((List.range i).map (yX n)).map vy++vy (yX n i)::List.replicate (7-i) (vy 0)=qc n (i+1):=by
 rw[qc,List.range_succ,List.map_append,List.map_append,show 8-(i+1)=7-i from by omega,List.append_assoc];rfl
theorem GG{l:List Nat}{i:Nat}(h:i<l.length):(l.take (i+1)).flatMap be4=(l.take i).flatMap be4++be4 l[i]! :=by
 rw[List.take_add_one,get!_of_lt h,List.flatMap_append];simp
theorem C0(l:List Nat):(l.flatMap be4).length=4*l.length:=by
 induction l with
 |nil=>rfl
 |cons a l ih=>rw[List.flatMap_cons,List.length_append,ih,List.length_cons];simp[be4];omega
theorem AJ(n:Nat):Lib.repeatL [0] n=List.replicate n 0:=by
 have:=Lib.repeatL_replicate 0 1 n
 rwa [Nat.mul_one] at this
theorem kD(n:Nat):IntKind.u8.wrap (n:Int)=((UInt8.ofNat (n%256)).toNat:Int):=by
 have:(UInt8.ofNat (n%256)).toNat=n%256:=by simp
 rw[this];simp only[IntKind.wrap,IntKind.signed,IntKind.bits,Bool.false_and,Bool.false_eq_true,if_false];omega
set_option maxRecDepth 20000 in
set_option maxHeartbeats 4000000 in
theorem FX{R:List RO}{O:List Own}{POST:Value->List RO->List Own->Prop}{v:St8}{g:Bool}{r t:List UInt8}{b n:Nat}(hr:db∈R)(hh:jJ v g r n t)(hn:n<=281474976710656)
 (hk:POST (vs (vX t)) R (az b 238 (cQ v g r n)::O)):
 Fun Tryz.prog 144 #[.pointer (some ⟨b,0,none⟩)] R (az b 238 (cQ v g r n)::O) POST:=by
 obtain⟨hr1,hr2⟩:=hh.rest
 have hpl:(nQ n).length=(119-n%64)%64+1:=by simp[nQ]
 refine aC (l:=[_]) Tryz.func144 rfl Tryz.ntmps144 rfl (L0:=[(0,_)]) rfl ?_
 refine aD<|ar rfl<|aw<|bd<|af rfl<|ab rfl (by exact ig rfl Tryz.underlying295 rfl rfl) ?_
 refine aw<|WC.cond rfl (λhc1=>?_) (λhc1=>?_)
 ·
  cases hc1
 ·
  refine ay<|aa<|aD<|af rfl<|ab rfl (aL rfl rfl)<|ab rfl (by exact bj rfl Q2 rfl aK ba rfl) ?_
  refine aq rfl<|OpW.alloc rfl Q4 rfl ba rfl rfl ?_;intro b3
  refine aq rfl<|aM rfl Q2 rfl rfl ba bh rfl rfl ba rfl ?_
  refine a7<|af rfl<|ab rfl (aL rfl rfl)<|ab rfl (by exact ak rfl vG rfl rfl) ?_
  refine ab rfl (by exact ax rfl C3 rfl aK (by rfl)) ?_
  refine ab rfl (gL (a:=n) (b:=64) rfl rfl rfl rfl rfl ct) ?_
  refine ab rfl (Rd.sub rfl rfl rfl ao) ?_
  refine aU 19 (u:=.int .i64 ((119-n%64:Nat):Int)) rfl (by congr 1;omega) ?_
  refine ab rfl (gL (a:=119-n%64) (b:=64) rfl rfl rfl rfl rfl ct) ?_
  refine aq rfl<|aj rfl rfl aZ an rfl rfl rfl ?_
  refine Fun.below (v:=vs (Lib.repeatL [0] ((119-n%64)%64))) (λw=>Tryz.strings_Repeat ⟨#[0]⟩ ((119-n%64)%64) w ao (by show 1*_<=_;omega)) ?_
  rw[AJ]
  refine ab rfl (cA rfl rfl rfl (by rw[List.length_replicate,List.length_singleton];omega)) ?_
  refine aq rfl<|aj rfl rfl aZ an rfl rfl rfl ?_
  refine rG (v:=v) (g:=g) (r:=r) (s:=nQ n) hr hh.1 ao ao ?_
  obtain⟨x,hx⟩: ∃x,x=blocks (v.begun g) (r++nQ n):=⟨_,rfl⟩
  have hxo:=qP (v.begun g) (r++nQ n) (tU hh.1)
  have hxr:=nL (v.begun g) (r++nQ n)
  have hxa:=jj (v.begun g) (r++nQ n) (cM n)
  rw[←hx] at hxo hxr hxa⊢
  refine a7<|aq rfl<|OpW.alloc rfl Sa rfl ba rfl rfl ?_;intro b4
  refine aw<|bd<|af rfl<|aw ?_
  refine WC.block ?_
  refine WC.pick [24,0,3,4] eS ?_
  refine WC.iJ 1 (λ(i:Nat)=>[(24,.int .i64 (i:Int))]) (λ(i:Nat)=>az b4 298 (qc n i)::az b3 238 (cQ x.1 true x.2 (n+(nQ n).length))::az b 238 (cQ v g r n)::O) (λ(i:Nat)=>i<=8) (λ(i:Nat)=>8-i) (0) iw ?hinv1 cC (λ_ h=>h) ?_
  case hinv1=>
   exact Nat.zero_le _
  intro i
  rintro i1
  refine aD<|ab rfl (Rd.lss rfl rfl rfl)<|aw ?_
  refine aF<|aE rfl (λhc2=>?_) (λhc2=>?_)
  ·
   have hml:(((List.range i).map (yX n)).map vy).length=i:=by simp
   have hll:(qc n i).length=8:=by rw[qc,List.length_append,hml,List.length_replicate];omega
   have hd1:=Nat.div_le_self n (2^(56-8*i))
   have hd2:=Nat.div_le_self n (2^(48-8*i))
   refine ay<|aa<|aF<|WC.block ?_
   refine aD<|af rfl<|ar rfl<|a7<|af rfl<|af rfl<|ab rfl (aL rfl rfl)<|ab rfl (by exact ak rfl vG rfl rfl) ?_
   refine ab rfl (by exact ax rfl C3 rfl aK (by rfl)) ?_
   refine af rfl<|ab rfl (Rd.mul rfl rfl rfl ao) ?_
   refine ab rfl (Rd.sub rfl rfl rfl ao) ?_
   refine ab rfl (cu (a:=n) (n:=56-8*i) rfl rfl rfl rfl ao (by show 56-8*i<=64;omega)) ?_
   refine ab rfl (tf (a:=n/2^(56-8*i)) (n:=3) rfl rfl rfl rfl rfl ct ao) ?_
   refine ab rfl (cX rfl rfl Tryz.underlying5 (hS:=Tryz.underlying3)) ?_
   refine aU 37 (u:=vy (UInt8.ofNat (n/2^(56-8*i)*8%256))) rfl (by rw[kD]) ?_
   refine ab rfl (by exact bg (k:=i) rfl LZ rfl rfl ao ao) ?_
   refine aq rfl<|aV rfl Z5 rfl rfl (by exact⟨rfl,rfl⟩) bh ao rfl ?_
   refine WL.heap (λw h=>by rw[Iz ao] at h;exact h) ?_
   refine a7<|af rfl<|ab rfl (Rd.lss rfl rfl rfl)<|aw ?_
   refine aE rfl (λhc3=>?_) (λhc3=>?_)
   ·
    refine WC.tail 16 mixed an ?_
    refine bn rfl (al rfl rfl)<|bn rfl (by exact bg (k:=i) rfl LZ rfl rfl ao ao) ?_
    refine bn rfl (ax rfl C5 rfl aK (DQ _ _ _ hml)) ?_
    refine bn rfl (al rfl rfl)<|bn rfl (aL rfl rfl)<|bn rfl (by exact ak rfl vG rfl rfl) ?_
    refine bn rfl (by exact ax rfl C3 rfl aK (by rfl)) ?_
    refine bn rfl (al rfl rfl)<|bn rfl (Rd.mul rfl rfl rfl ao) ?_
    refine bn rfl (Rd.sub rfl rfl rfl ao) ?_
    refine bn rfl (cu (a:=n) (n:=48-8*i) rfl rfl rfl rfl ao (by show 48-8*i<=64;omega)) ?_
    refine bn rfl (Nq (a:=n/2^(48-8*i)) (c:=255) rfl rfl rfl rfl rfl (show _<9223372036854775808 by omega) ct) ?_
    refine bn rfl (cu (a:=n/2^(48-8*i) &&& 255) (n:=5) rfl rfl rfl rfl rfl ct) ?_
    have h255:n/2^(48-8*i) &&& 255<=255:=Nat.and_le_right
    refine bn rfl (ck rfl rfl Tryz.underlying5 (c6 rfl (show _<256 by omega)) (hS:=Tryz.underlying3)) ?_
    refine bn rfl (ze rfl rfl rfl rfl rfl rfl (UInt8.toNat_lt _) (show _<256 by omega)) ?_
    refine WS.say 55 (u:=vy (yX n i)) rfl (by
    have e: ∀m:Nat,m<256->(UInt8.ofNat m).toNat=m:=λm h=>by simp;omega
    rw[e _ (Nat.mod_lt _ ct),HC ao,yX,vy,e _ (Nat.mod_lt _ ct)]) ?_
    refine bn rfl (by exact bg (k:=i) rfl LZ rfl rfl ao ao) ?_
    refine dm<|aq rfl<|aV rfl Z5 rfl rfl (by exact⟨rfl,rfl⟩) bh (by(simp;done)) rfl ?_
    refine WL.heap (λw h=>by rw[E6 _ _ _ _ hml] at h;exact h) ?_
    refine aG<|aA<|aa<|aB<|ab rfl (Rd.add rfl rfl rfl ao) ?_
    exact af rfl<|aG<|bq.mk (i+1) ao ao cC (λw h=>by rw[←wA ao];exact dj h)
   ·
    refine ay<|aA<|aa<|aB<|ab rfl (Rd.add rfl rfl rfl ao) ?_
    refine af rfl<|aG ?_
    obtain rfl:i=7:=by omega
    exact bq.mk (7+1) ao ao cC (λw h=>by rw[←wA ao,yX,←F8];exact dj h)
  ·
   obtain rfl:i=8:=by omega
   refine WC.heap (R':=R) (O':=az b4 298 ((cM n).map vy)::az b3 238 (cQ x.1 true x.2 (n+(nQ n).length))::az b 238 (cQ v g r n)::O) (λw h=>by
    have e:qc n 8=(cM n).map vy:=by rw[qc,Nat.sub_self,List.replicate_zero,List.append_nil];rfl
    rw[e] at h;exact h) ?_
   refine WC.exit<|au.exit<|bq.exit<|aH.exit<|aa<|aD<|ab rfl (BG rfl LZ rfl ct) ?_
   refine ab rfl (bY (bs:=cM n) rfl Tryz.underlying41 Tryz.underlying9 Tryz.underlying5 rfl aK rfl (nJ n) ao) ?_
   refine aq rfl<|aj rfl rfl aZ an rfl rfl rfl ?_
   have hlE:=nJ n
   refine Fun.heap (R':=R) (O':=az b3 238 (cQ x.1 true x.2 (n+(nQ n).length))::az b 238 (cQ v g r n)::O) bN ?_
   refine rG (v:=x.1) (g:=true) (r:=x.2) (s:=cM n) hr (λ_=>hxo) ao ao ?_
   rw[show x.1.begun true=x.1 from rfl,hxa]
   obtain⟨y,hy⟩: ∃y,y=(blocks (v.begun g) (r++nQ n++cM n)).1:=⟨_,rfl⟩
   rw[←hy]
   have hdg:s5 y=vX t:=by rw[hy];exact hh.sum
   refine a7<|aq rfl<|kc (m:=0) (c:=32) rfl S41 rfl rfl rfl rfl rfl ao ao ao rfl rfl ?_;intro b61
   refine WL.heap (λw h=>Ds (α:=UInt8) (enc:=SL.one vy) (size:=1) (c:=32) bh (by simp) ct h) ?_
   refine ar rfl<|aw<|bd<|ab rfl (by exact ak rfl uZ rfl rfl) ?_
   refine ab rfl (bj (ds:=y.cs) rfl qk rfl aK ba rfl) ?_
   refine af rfl<|aw<|WC.block ?_
   refine WC.pick [64,6,63] eS ?_
   refine WC.ia 2 (λ(j:Nat) (u:Value)=>[(64,.int .i64 (j:Int)),(6,u)]) (λ(j:Nat) (u:Value)=>bt 5 1 (SL.one vy) u ((y.wl.take j).flatMap be4)::az b3 238 (cQ y true (blocks (v.begun g) (r++nQ n++cM n)).2 (n+(nQ n).length+(cM n).length))::az b 238 (cQ v g r n)::O) (λ(j:Nat) (u:Value)=>j<=8/\bL u) (λ(j:Nat) (u:Value)=>8-j) (0) (.slice (some ⟨b61,0,none⟩) 0 32) iw ?hinv2 cC (λ_ h=>h) ?_
   case hinv2=>
    exact⟨Nat.zero_le _,bL.sl⟩
   intro j u
   rintro⟨j1,j2⟩
   refine aD<|ab rfl (Rd.lss rfl rfl rfl)<|aw ?_
   refine aF<|aE rfl (λhc4=>?_) (λhc4=>?_)
   ·
    have hyl:y.wl.length=8:=rfl
    have hfs:=GG (l:=y.wl) (i:=j) ao
    have hfl:=C0 (y.wl.take j)
    rw[List.length_take] at hfl
    refine ay<|aa<|aF<|WC.block ?_
    refine aD<|ab rfl (rK (k:=j) rfl ik fC rfl rfl ao ao (by rw[QG,List.getElem?_map,get!_of_lt (xs:=y.wl) ao];rfl)) ?_
    refine ar rfl<|lE<|af rfl<|af rfl<|ab rfl (cu (a:=y.wl[j]!) (n:=24) rfl rfl rfl rfl rfl ct) ?_
    refine ab rfl (by exact cX rfl rfl Tryz.underlying5 (hS:=Tryz.underlying194)) ?_
    refine aU 70 (u:=vy (UInt8.ofNat (y.wl[j]! /2^24%256))) rfl (by rw[kD]) ?_
    refine af rfl<|ab rfl (cu (a:=y.wl[j]!) (n:=16) rfl rfl rfl rfl rfl ct) ?_
    refine ab rfl (by exact cX rfl rfl Tryz.underlying5 (hS:=Tryz.underlying194)) ?_
    refine aU 73 (u:=vy (UInt8.ofNat (y.wl[j]! /2^16%256))) rfl (by rw[kD]) ?_
    refine af rfl<|ab rfl (cu (a:=y.wl[j]!) (n:=8) rfl rfl rfl rfl rfl ct) ?_
    refine ab rfl (by exact cX rfl rfl Tryz.underlying5 (hS:=Tryz.underlying194)) ?_
    refine aU 76 (u:=vy (UInt8.ofNat (y.wl[j]! /2^8%256))) rfl (by rw[kD]) ?_
    refine af rfl<|ab rfl (by exact cX rfl rfl Tryz.underlying5 (hS:=Tryz.underlying194)) ?_
    refine aU 78 (u:=vy (UInt8.ofNat (y.wl[j]! %256))) rfl (by rw[kD]) ?_
    refine aq rfl<|aX (ps:=[(0,_),(1,_),(2,_),(3,_)]) rfl S41 aZ rfl rfl fy an rfl rfl rfl ?_;intro b79
    refine aq rfl<|bR (enc:=SL.one vy) rfl S41 rfl rfl bh bh (be4 y.wl[j]!) rfl (by rfl) rfl ie ie (by exact⟨by simp only[maxLen,List.length_append,List.length_nil,List.length_cons,List.length_drop,List.length_take,List.length_map];omega,by omega⟩) rfl rfl ?_;intro v80 hv80
    refine ar rfl<|aG<|aA<|aa<|aB<|ab rfl (Rd.add rfl rfl rfl ao) ?_
    exact af rfl<|aG<|bC.mk (j+1) v80 ⟨by omega,hv80⟩ ao cC (λw h=>by rw[hfs];exact dj h)
   ·
    obtain rfl:j=8:=by omega
    have hfin:(y.wl.take 8).flatMap be4=vX t:=hdg
    refine WC.heap (λw h=>by rw[hfin] at h;exact h) ?_
    refine WC.exit<|au.exit<|bC.exit<|aH.exit<|aa<|aD<|af rfl<|ab rfl (by exact He rfl Tryz.underlying41 Tryz.underlying9 Tryz.underlying5 rfl aK) ?_
    refine ar rfl<|aw<|WC.heap (R':=R) (O':=az b 238 (cQ v g r n)::O) bN ?_
    refine WC.ret (Ret.one Tryz.results144 rfl ?_)
    exact hk
end Go.Proofs.YtebpkhlifcffnaaGreatDoor
namespace Go.Proofs.YtebpkhlifcffnaaGreatDoor
open Go Go.SL
theorem yR{l:List (List UInt8)}{i:Nat}(h:i<l.length):(l.take (i+1)).flatten=(l.take i).flatten++l[i]! :=by
 rw[List.take_add_one,get!_of_lt h,List.flatten_append];simp
theorem sC(l:List (List UInt8))(i:Nat):(l.take i).flatten.length<=l.flatten.length:=by
 have h:l.flatten=(l.take i).flatten++(l.drop i).flatten:=by rw[←List.flatten_append,List.take_append_drop]
 rw[h,List.length_append];omega
set_option maxRecDepth 20000 in
set_option maxHeartbeats 1000000 in
theorem Aq{R:List RO}{O:List Own}{POST:Value->List RO->List Own->Prop}{l:List (List UInt8)}{lv:Value}(hr:db∈R)(hl:SlE (SL.one vs) lv l∈R)(hn:l.flatten.length<=281474976710656)
 (hk:POST (vs (vX l.flatten)) R O):Fun Tryz.prog 86 #[lv] R O POST:=by
 refine Fun.len hl λhll=>?_
 refine aC (l:=[_]) Tryz.func86 rfl Tryz.ntmps86 rfl (L0:=[(0,_)]) rfl ?_
 refine aD<|ar rfl<|a7 ?_
 refine aq rfl<|OpW.alloc rfl Q4 rfl ba rfl rfl ?_;intro b3
 refine aw<|bd<|af rfl<|ab rfl (by exact bu rfl rfl Tryz.underlying37 aK) ?_
 refine af rfl<|aw<|WC.block ?_
 refine WC.pick [8,3,6,7] eS ?_
 refine KG 1 (λ(i:Nat) (v:St8) (g:Bool) (r:List UInt8) (n:Nat)=>[(8,.int .i64 (i:Int))]) (λ(i:Nat) (v:St8) (g:Bool) (r:List UInt8) (n:Nat)=>az b3 238 (cQ v g r n)::O) (λ(i:Nat) (v:St8) (g:Bool) (r:List UInt8) (n:Nat)=>i<=l.length/\jJ v g r n (l.take i).flatten) (λ(i:Nat) (v:St8) (g:Bool) (r:List UInt8) (n:Nat)=>l.length-i) (0) (⟨0,0,0,0,0,0,0,0⟩) (false) ([]) (0) iw ?hinv1 cC (λ_ h=>h) ?_
 case hinv1=>
  exact⟨Nat.zero_le _,jJ.new _⟩
 intro i v g r n
 rintro⟨h1,h2⟩
 refine aD<|ab rfl (Rd.lss rfl rfl rfl)<|aw ?_
 refine aF<|aE rfl (λhc1=>?_) (λhc1=>?_)
 ·
  have hf:=yR (l:=l) (i:=i) ao
  have hfl:=congrArg List.length hf
  rw[List.length_append] at hfl
  have hfn:=sC l (i+1)
  have hrr:=h2.rest
  have hnn:n=(l.take i).flatten.length:=h2.2.2
  refine ay<|aa<|aF<|WC.block ?_
  refine aD<|ab rfl (by exact c9 (k:=i) rfl S37 rfl rfl ao aK ao) ?_
  refine ab rfl (by exact Rd.get rfl C9 rfl aK (by exact get!_of_lt ao)) ?_
  refine ar rfl<|lE<|af rfl<|aq rfl<|aj rfl rfl aZ an rfl rfl rfl ?_
  refine rG hr h2.1 ao ao ?_
  refine aG<|aA<|aa<|aB<|ab rfl (Rd.add rfl rfl rfl ao) ?_
  exact af rfl<|aG<|jH.mk (i+1) _ _ _ _ ⟨by omega,by rw[hf];exact h2.put _⟩ ao cC bN
 ·
  have hi:l.take i=l:=List.take_of_length_le ao
  rw[hi] at h2
  have hnn:n=l.flatten.length:=h2.2.2
  refine WC.exit<|au.exit<|jH.exit<|aH.exit<|aa<|aD<|aq rfl<|aj rfl rfl aZ an rfl rfl rfl ?_
  refine FX hr h2 ao ?_
  refine ar rfl<|aw<|WC.heap (R':=R) (O':=O) bN ?_
  refine WC.ret (Ret.one Tryz.results86 rfl ?_)
  exact hk
def RY:List UInt8:=[48,49,50,51,52,53,54,55,56,57,97,98,99,100,101,102]
def dg(n:Nat):UInt8:=RY[n]!
def val(c:UInt8):Int:=Lib.indexByte RY c
def hx(c:UInt8):List UInt8:=[dg (c.toNat/16),dg (c.toNat%16)]
end Go.Proofs.YtebpkhlifcffnaaGreatDoor
namespace Go.Proofs.YtebpkhlifcffnaaGreatDoor
open Go Go.SL Go.Ex
noncomputable section
def frc{α:Type}:List Nat->(List Nat->α)->α
 | [],k=>k []
 |a::r,k=>fN a λa=>frc r λr=>k (a::r)
def Mo{α:Type}(v:St8)(k:St8->α):α:=fN v.a λa=>fN v.b λb=>fN v.c λc=>fN v.d λd=>fN v.e λe=>fN v.f λf=>fN v.g λg=>fN v.h λh=>k ⟨a,b,c,d,e,f,g,h⟩
def LY:Nat->St8->List UInt8->St8
 |0,v,_=>v
 |f+1,v,r=>ifb (Nat.blt r.length 64) v (Mo (ll v (r.take 64)) λv=>LY f v (r.drop 64))
def MN(s:List Nat):List Nat:=(s5 (LY 64 jG (txt s++nQ (ln s)++cM (ln s)))).map (·.toNat)
def L3:AV->Option (List Nat)
 | .st s=>some s
 |_=>none
def R4(s:List Nat)(h:Go.Ex.Hp):Option (AV×Go.Ex.Hp):=ifb (Nat.ble (ln s) 3000) (frc (MN s) λd=>some (.st d,h)) none
def HH(len cap:Nat)(q:Ch×Go.Ex.Hp):Option (AV×Go.Ex.Hp):=match q.1 with
 | .row _ cs=>ifb (Nat.beq (ln cs) len&&(Nat.ble len 1000000&&Nat.beq cap len)) (bnd (iO L3 cs) λss=>R4 ss.flatten q.2) none
 |_=>none
def v8(l:List AV)(B:Bs)(h:Go.Ex.Hp):Option (AV×Go.Ex.Hp):=match l with
 | [.sl i off len cap]=>ifb (Nat.beq off 0) (bnd (h.take B i) (HH len cap)) none
 |_=>none
end
section
variable{ρ:Rho}{R:List RO}{O F:List Own}{B:Bs}{OB:List Own}{h h':Go.Ex.Hp}
theorem HX{α:Type}: ∀(l:List Nat) (k:List Nat->α),frc l k=k l
 | [],_=>rfl
 |a::r,k=>by
  show fN a _=_
  rw[dz,HX r]
theorem L8{α:Type}(v:St8)(k:St8->α):Mo v k=k v:=by simp only[Mo,dz]
theorem Ep: ∀(f:Nat) (v:St8) (r:List UInt8),r.length<64*(f+1)->LY f v r=(blocks v r).1
 |0,v,r,h=>by rw[iX ao];rfl
 |f+1,v,r,h=>by
  show ifb (Nat.blt r.length 64) v (Mo (ll v (r.take 64)) λv=>LY f v (r.drop 64))=_
  rw[bA,L8]
  by_cases hl:r.length<64
  ·rw[if_pos (by rw[Nat.blt_eq];exact hl),iX hl]
  ·rw[if_neg (by rw[Nat.blt_eq];exact hl),j6 hl,Ep f _ _ (by rw[List.length_drop];omega)]
theorem Md{s:List Nat}(h:s.length<=3000):MN s=(vX (txt s)).map (·.toNat):=by
 have hl:(txt s).length=s.length:=by simp[txt]
 unfold MN vX J3
 rw[cN,hl,Ep]
 rw[List.length_append,List.length_append,hl,nJ]
 simp only[nQ,List.length_cons,List.length_replicate]
 omega
theorem Ff: ∀{cs:List AV} {ss:List (List Nat)} {vs:List Value},iO L3 cs=some ss->VRs ρ cs vs->(∀n∈ss.flatten,n<256)/\vs=(ss.map txt).flatMap (Go.SL.one Go.SL.vs)
 | [],ss,vs,h,hv=>by cases h;cases hv;exact⟨λn hn=>absurd hn List.not_mem_nil,rfl⟩
 |a::cs,ss,vs,h,hv=>by
  obtain⟨s,hs,h⟩:=ah h
  obtain⟨t,ht,h⟩:=ah (x:=iO L3 cs) h
  cases h
  cases hv with
  |cons hv hr=>
   obtain⟨h1,rfl⟩:=Ff ht hr
   unfold L3 at hs
   split at hs
   ·cases hs
    cases hv with
    |st hlt=>
     refine⟨λn hn=>?_,rfl⟩
     rw[List.flatten_cons] at hn
     rcases List.mem_append.1 hn with hn|hn
     ·exact hlt n hn
     ·exact h1 n hn
   ·cases hs
theorem Ar(ss:List (List Nat)):(ss.map txt).flatten=txt ss.flatten:=by
 rw[txt,List.map_flatten]
theorem la(ht:db∈R):kq Tryz.prog R 86 v8:=by
 intro args B h q hq
 unfold v8 at hq
 split at hq
 ·rename_i i off len cap
  obtain⟨ho,hq⟩:=aI hq
  obtain rfl:=eD ho
  obtain⟨p,hp,hq⟩:=ah hq
  obtain⟨ch,h1⟩:=p
  have hnx:=eh hp
  unfold HH at hq
  split at hq
  ·rename_i t cs heq
   have heq:ch= .row t cs:=heq
   subst heq
   obtain⟨hc,hq2⟩:=aI hq
   clear hq
   obtain⟨hc1,hc2⟩:=bZ hc
   obtain⟨hc3,hc2⟩:=bZ hc2
   have hc1:=eD hc1
   obtain rfl:=eD hc2
   have hcm:cap<=9223372036854775807:=Nat.le_trans (Nat.le_of_ble_eq_true hc3) ct
   rw[cN] at hc1
   obtain⟨ss,hss,hq⟩:=ah hq2
   clear hq2
   obtain⟨hlen,hq⟩:=aI hq
   rw[HX] at hq
   cases hq
   have hlen:=Nat.le_of_ble_eq_true hlen
   rw[cN] at hlen
   have hnx:h1.nx=h.nx:=hnx
   refine⟨Nat.le_of_eq hnx.symm,λρ OB O F vs w hvs H hN hs=>.inl ⟨by kernel_rfl,?_⟩⟩
   cases hvs with
   |cons hv1 hr=>
    cases hr
    cases hv1 with
    |sl hi hcap=>
     rename_i g
     obtain⟨own,O',hT,hC,hH,_⟩:=H.take hp
     cases hC with
     |row hi' hv=>
      rename_i g' vs
      rw[hi] at hi';cases hi'
      obtain⟨hlt,rfl⟩:=Ff hss hv
      have hsl:ss.length=cap:=by
       have:=hv.length
       rw[dG,List.length_map,List.length_map] at this
       omega
      have hs':=hs.perm (take_left hT F).perm
      have hs2:=Sat.gC (enc:=Go.SL.one Go.SL.vs) (xs:=ss.map txt) (m:=cap) (.head _) rfl (by simp[hsl]) hcm hs'
      refine(Aq (POST:=λv2 R' O2=>v2=Go.SL.vs (vX (txt ss.flatten))/\(∀p∈R,p∈R')/\O2=O'++F) (l:=ss.map txt) (List.mem_cons_of_mem _ ht) List.mem_cons_self (by rw[Ar];simp only[txt,List.length_map];omega) ⟨by rw[Ar],λp hp=>List.mem_cons_of_mem _ hp,rfl⟩ w hs2).mono ?_
      rintro e w' ⟨v2,R',O2,rfl,⟨rfl,hR,rfl⟩,hs3⟩
      refine⟨_,ρ,O',rfl,?_,?_,hH,hs3.thin hR⟩
      ·show Ext ρ ρ h.nx h1.nx
       exact Ext.refl ..
      ·show VR ρ (.st (MN ss.flatten)) _
       rw[Md hlen]
       have:=VR.st (ρ:=ρ) (s:=(vX (txt ss.flatten)).map (·.toNat)) (λn hn=>by
        obtain⟨b,_,rfl⟩:=List.mem_map.1 hn
        exact UInt8.toNat_lt b)
       rwa [lQ] at this
  ·cases hq
 ·cases hq
end
end Go.Proofs.YtebpkhlifcffnaaGreatDoor
namespace Go.Ex
open Go Go.SL
noncomputable section
def u4:List Nat->List Nat->Bool
 | [],_=>true
 |_::_,[]=>false
 |a::u,b::s=>ifb (Nat.beq a b) (u4 u s) false
def sF(u:List Nat):List Nat->Nat->Option Nat
 | [],k=>ifb (u4 u []) (some k) none
 |b::s,k=>ifb (u4 u (b::s)) (some k) (sF u s (k+1))
def yB:Option Nat->AV
 |some k=>.it .i64 (Int.ofNat k)
 |none=>.it .i64 (-1)
def R7:Option Nat->AV
 |some _=>.bo true
 |none=>.bo false
def ke(l:List AV)(_:Bs)(h:Go.Ex.Hp):Option (AV×Go.Ex.Hp):=match l with
 | [.st s,.st u]=>ifb (Nat.ble (ln s) 1000000) (some (yB (sF u s 0),h)) none
 |_=>none
def CK(c:Nat):List Nat->Nat
 | []=>0
 |a::r=>ifb (Nat.beq a c) (Nat.succ (CK c r)) (CK c r)
def tp(l:List AV)(_:Bs)(h:Go.Ex.Hp):Option (AV×Go.Ex.Hp):=match l with
 | [.st s,.it .u8 n]=>bnd (toN n) λc=>ifb (Nat.blt c 256) (fN (CK c s) λk=>some (.it .i64 (Int.ofNat k),h)) none
 |_=>none
def eO(l:List AV)(_:Bs)(h:Go.Ex.Hp):Option (AV×Go.Ex.Hp):=match l with
 | [.st s,.st u]=>ifb (Nat.ble (ln s) 1000000) (some (R7 (sF u s 0),h)) none
 |_=>none
end
theorem xa{a b:Nat}(ha:a<256)(hb:b<256)(h:UInt8.ofNat a=UInt8.ofNat b):a=b:=by
 have:=congrArg UInt8.toNat h
 rw[UInt8.toNat_ofNat',UInt8.toNat_ofNat'] at this
 omega
theorem zy: ∀(u s:List Nat),(∀n∈u,n<256)->(∀n∈s,n<256)->u4 u s=(txt u).isPrefixOf (txt s)
 | [],s,_,_=>by cases s<;>rfl
 |_::_,[],_,_=>rfl
 |a::u,b::s,hu,hs=>by
  have ih:=zy u s (λn h=>hu n (List.mem_cons_of_mem _ h)) (λn h=>hs n (List.mem_cons_of_mem _ h))
  have ha:=hu a List.mem_cons_self
  have hb:=hs b List.mem_cons_self
  show ifb (Nat.beq a b) (u4 u s) false=(UInt8.ofNat a::txt u).isPrefixOf (UInt8.ofNat b::txt s)
  rw[List.isPrefixOf,←ih,bA]
  by_cases e:a=b
  ·subst e;simp
  ·have e2: ¬UInt8.ofNat a=UInt8.ofNat b:=λh=>e (xa ha hb h)
   rw[if_neg (by rw[Nat.beq_eq];exact e)]
   simp[e2]
def Pr:Option Nat->Int
 |some k=>(k:Int)
 |none=> -1
theorem uz(u:List Nat): ∀(s:List Nat) (k:Nat),sF u s k=(sF u s 0).map (· +k)
 | [],k=>by
   simp only[sF,bA]
   split<;>simp
 |b::s,k=>by
  simp only[sF,bA]
  split
  ·simp
  ·rw[uz u s (k+1),uz u s (0+1),Option.map_map]
   congr 1
   funext j
   show j+(k+1)=j+(0+1)+k
   omega
theorem yI(u:List Nat)(hu: ∀n∈u,n<256): ∀(s:List Nat),(∀n∈s,n<256)->Lib.index (txt s) (txt u)=Pr (sF u s 0)
 | [],_=>by
   cases u with
   |nil=>rfl
   |cons a u=>rfl
 |b::s,hs=>by
  have ih:=yI u hu s (λn h=>hs n (List.mem_cons_of_mem _ h))
  have hp:=zy u (b::s) hu hs
  show Lib.index (UInt8.ofNat b::txt s) (txt u)=_
  rw[Lib.index,show(txt u).isPrefixOf (UInt8.ofNat b::txt s)=u4 u (b::s) from hp.symm,ih]
  simp only[sF,bA]
  rw[uz u s (0+1)]
  by_cases h:u4 u (b::s)=true
  ·rw[if_pos h,if_pos h];rfl
  ·rw[if_neg h,if_neg h]
   cases sF u s 0 with
   |none=>rfl
   |some k=>
    have:((Pr (some k))==(-1:Int))=false:=by
     rw[beq_eq_false_iff_ne]
     show ¬(k:Int)= -1
     omega
    rw[this]
    show(k:Int)+1=((k+(0+1):Nat):Int)
    omega
theorem DJ{c:Nat}(hc:c<256): ∀{s:List Nat},(∀n∈s,n<256)->CK c s=Lib.countByte (txt s) (UInt8.ofNat c)
 | [],_=>rfl
 |a::r,h=>by
  have ha:=h a List.mem_cons_self
  have ih:=DJ hc (s:=r) λn hn=>h n (List.mem_cons_of_mem _ hn)
  show ifb (Nat.beq a c) (Nat.succ (CK c r)) (CK c r)=List.count (UInt8.ofNat c) (UInt8.ofNat a::txt r)
  rw[List.count_cons,bA,ih]
  by_cases e:a=c
  ·subst e
   rw[if_pos (by rw[Nat.beq_eq]),if_pos (by simp)];rfl
  ·rw[if_neg (by rw[Nat.beq_eq];exact e),if_neg (by simp only[beq_iff_eq];exact λh2=>e (xa ha hc h2))];rfl
section
variable{P:Program}{R:List RO}
theorem jY{g:Nat}{fn:Func}(hf:P.funcs[g]? =some fn)(hname:(fn.name== "runtime.NumGoroutine")=false)(hb:fn.body.isNone=true)(hn:Extern.findNext fn=none)(he:Extern.find fn=some Extern.BytealgCount.count):kq P R g tp:=by
 intro args B h q hq
 unfold tp at hq
 split at hq
 ·rename_i s n
  obtain⟨c,hc,hq⟩:=ah hq
  obtain⟨hlt,hq⟩:=aI hq
  have hlt:=Nat.le_of_ble_eq_true hlt
  rw[dz] at hq
  cases hq
  refine⟨Nat.le_refl _,λρ OB O F vs w hvs H hN hs=>.inr ?_⟩
  cases hvs with
  |cons h1 hr=>
   cases hr with
   |cons h2 hr=>
    cases hr
    cases h1 with
    |st hst=>
     cases h2
     obtain rfl:=jt hc
     have hrun:=Lib.run_countString (P:=P) ⟨(txt s).toArray⟩ (c:Int) w
     have h3:=run_callFunc_extern hf hname hb hn he #[.string ⟨(txt s).toArray⟩,.int .u8 (c:Int)] w
     rw[hrun,Result.andThen_ok] at h3
     refine⟨_,_,h3,_,ρ,O,rfl,Ext.refl ..,?_,H,hs⟩
     show VR ρ (.it .i64 (Int.ofNat (CK c s))) _
     rw[DJ (show c<256 from hlt) hst]
     exact .it _ _
 ·cases hq
end
end Go.Ex
namespace Go.Proofs.YtebpkhlifcffnaaGreatDoor
open Go Go.SL Go.Ex
def dQ(g:Nat):RO:=λw=> ∃m,w.cell? ⟨g,0,none⟩=some (.int .i64 m)
section
variable{R:List RO}{O:List Own}{POST:Value->List RO->List Own->Prop}
theorem Bi{s sub:List UInt8}(hg:dQ 1∈R)(hs:s.length<4294967281)(hk:POST (.int .i64 (Lib.index s sub)) R O):Fun Tryz.prog 161 #[vs s,vs sub] R O POST:=λw hw=>by
 obtain⟨m,hm⟩:=hw.read hg
 refine(Tryz.strings_Index ⟨s.toArray⟩ ⟨sub.toArray⟩ m w (by simpa [ByteArray.size] using hs) hm).mono λe w' ⟨he,hb⟩=>⟨_,R,O,he,hk,by rw[hb];exact hw⟩
theorem fX(hg:dQ 1∈R):kq Tryz.prog R 161 ke:=by
 refine .still an λargs B h q hq=>?_
 unfold ke at hq
 split at hq
 ·rename_i s u
  obtain⟨hl,hq⟩:=aI hq
  have hl:=Nat.le_of_ble_eq_true hl
  rw[cN] at hl
  cases hq
  refine⟨rfl,λρ vs hvs=>?_⟩
  cases hvs with
  |cons h1 hr=>
   cases hr with
   |cons h2 hr=>
    cases hr
    cases h2 with
    |st hu=>
     cases h1 with
     |st hst=>
      refine⟨.int .i64 (Lib.index (txt s) (txt u)),?_,λO=>Bi hg (by simp[txt];omega) ⟨rfl,rfl,rfl⟩⟩
      rw[yI u hu s hst]
      cases sF u s 0 with
      |none=>exact .it _ _
      |some k=>exact .it _ _
 ·cases hq
theorem u5{s sub:List UInt8}(hg:dQ 1∈R)(hs:s.length<4294967281)(hk:POST (.bool (Lib.contains s sub)) R O):Fun Tryz.prog 177 #[vs s,vs sub] R O POST:=λw hw=>by
 obtain⟨m,hm⟩:=hw.read hg
 refine(Tryz.strings_Contains ⟨s.toArray⟩ ⟨sub.toArray⟩ m w (by simpa [ByteArray.size] using hs) hm).mono λe w' ⟨he,hb⟩=>⟨_,R,O,he,hk,by rw[hb];exact hw⟩
theorem dR(hg:dQ 1∈R):kq Tryz.prog R 177 eO:=by
 refine .still an λargs B h q hq=>?_
 unfold eO at hq
 split at hq
 ·rename_i s u
  obtain⟨hl,hq⟩:=aI hq
  have hl:=Nat.le_of_ble_eq_true hl
  rw[cN] at hl
  cases hq
  refine⟨rfl,λρ vs hvs=>?_⟩
  cases hvs with
  |cons h1 hr=>
   cases hr with
   |cons h2 hr=>
    cases hr
    cases h2 with
    |st hu=>
     cases h1 with
     |st hst=>
      refine⟨.bool (Lib.contains (txt s) (txt u)),?_,λO=>u5 hg (by simp[txt];omega) ⟨rfl,rfl,rfl⟩⟩
      unfold Lib.contains
      rw[yI u hu s hst]
      cases sF u s 0 with
      |none=>exact .bo _
      |some k=>
       rw[show decide (0<=Pr (some k))=true from decide_eq_true (Int.natCast_nonneg k)]
       exact .bo _
 ·cases hq
end
end Go.Proofs.YtebpkhlifcffnaaGreatDoor
