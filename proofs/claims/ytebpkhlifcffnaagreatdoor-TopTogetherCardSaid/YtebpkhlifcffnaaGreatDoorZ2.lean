/-
  Part 2 of the texts that the law TopTogether is proved with: Nm1, Nm2, Nm3, Nm4, Cr1, Nm5, Nm6, Nm7, Nm8, Cr2, Bld, Acc, Copy, Shelf, Se1, Se2, Ato, Se3, Se4, Se5, Se6, Se7, Se8, Wa1, Wa2. No premise.
-/
import Derived.Test.YtebpkhlifcffnaaGreatDoorZ1
import Derived.Lib.SliceRun
import Derived.Laws.CopyRow
import Derived.Shelf.Strings.Builder1
import Derived.Shelf.Strings.Builder2
import Derived.Shelf.Strings.OnBuilder
import Derived.Shelf.Small.Bits
import Derived.Shelf.Small.Strs
import Derived.Shelf.Strings.BuilderF
import Derived.Shelf.Strconv.Itoa0
import Derived.Shelf.Strings.Search1
import Derived.Shelf.Strings.Search2
import Derived.Shelf.Strings.Search3
import Derived.Shelf.Strings.Cut
import Derived.Shelf.Strings.Count
import Derived.Shelf.LaysM
import Derived.Shelf.Strings.Shaped
import Derived.Shelf.Sort.Plain
import Derived.Shelf.GgClosure.StringsIndexFunc
import Derived.Ground.GgwProg
import Derived.Shelf.GgClosure.StringsIndexFuncTop
import Derived.Shelf.GgClosure.StringsRunes
import Derived.Shelf.Strings.Prefix
import Derived.Shelf.Bits.Mul64
import Derived.Shelf.Strings.Repeat
import Derived.Shelf.Unicode.DecodeSlow
import Derived.Shelf.Unicode.DecodeAny
import Derived.Shelf.Strings.FuncGrows
import Derived.Shelf.Slices.Turned
import Derived.Shelf.Slices.In.SortNone
import Derived.Test.YtebpkhlifcffnaaGreatDoorProg
import Derived.Laws.LoneSync
namespace Go.Proofs.YtebpkhlifcffnaaGreatDoor
open Go Go.SL
set_option maxRecDepth 20000 in
theorem vW{R:List RO}{O:List Own}{POST:Value->List RO->List Own->Prop}{b:Nat}{v:Value}
 (hk:POST (.tuple #[]) R (az b 141 [.pointer (some ⟨b,0,none⟩),v]::O)):
 Fun Tryz.prog 128 #[.pointer (some ⟨b,0,none⟩)] R (az b 141 [.pointer none,v]::O) POST:=by
 refine aC (l:=[_]) Tryz.func128 rfl Tryz.ntmps128 rfl (L0:=[(0,_)]) rfl ?_
 refine aD<|af rfl<|ab rfl (aL rfl rfl)<|ab rfl (by exact ak rfl nN rfl rfl) ?_
 refine ab rfl (by exact ax rfl F9 rfl aK (by rfl)) ?_
 refine ab rfl (by exact xS rfl Tryz.underlying139 rfl rfl) ?_
 refine aw<|WC.cond rfl (λhc1=>?_) (λhc1=>?_)
 ·
  refine aB<|af rfl<|af rfl<|ab rfl (sw rfl Tryz.underlying139 Tryz.underlying276 wa ct rfl aK (by simp)) ?_
  refine aq rfl<|OpW.rd rfl rfl (xT (ef:=Extern.AbiNoEscape.same) rfl rfl aZ Tryz.func183 rfl rfl an an (λw=>Lib.run_noEscape w _)) ?_
  refine ab rfl (sx rfl Tryz.underlying276 Tryz.underlying139 wa rfl aK an) ?_
  refine ab rfl (aL rfl rfl)<|ab rfl (by exact ak rfl nN rfl rfl) ?_
  refine aq rfl<|aV rfl Rh rfl rfl (by exact⟨rfl,rfl⟩) bh (by(simp;done)) rfl ?_
  refine aG<|Ret.normal (Ret.zero Tryz.results128 ?_)
  exact hk
 ·
  simp at hc1
set_option maxRecDepth 20000 in
theorem u3{R:List RO}{O:List Own}{POST:Value->List RO->List Own->Prop}{b:Nat}{v:Value}
 (hk:POST (.tuple #[]) R (az b 141 [.pointer (some ⟨b,0,none⟩),v]::O)):
 Fun Tryz.prog 128 #[.pointer (some ⟨b,0,none⟩)] R (az b 141 [.pointer (some ⟨b,0,none⟩),v]::O) POST:=by
 refine aC (l:=[_]) Tryz.func128 rfl Tryz.ntmps128 rfl (L0:=[(0,_)]) rfl ?_
 refine aD<|af rfl<|ab rfl (aL rfl rfl)<|ab rfl (by exact ak rfl nN rfl rfl) ?_
 refine ab rfl (by exact ax rfl F9 rfl aK (by rfl)) ?_
 refine ab rfl (by exact ig rfl Tryz.underlying139 rfl rfl) ?_
 refine aw<|WC.cond rfl (λhc1=>?_) (λhc1=>?_)
 ·
  simp at hc1
 ·
  refine aD<|af rfl<|ab rfl (aL rfl rfl)<|ab rfl (by exact ak rfl nN rfl rfl) ?_
  refine ab rfl (by exact ax rfl F9 rfl aK (by rfl)) ?_
  refine af rfl<|ab rfl (qG rfl Tryz.underlying139 wa rfl rfl)<|aw<|WC.cond rfl (λhc2=>?_) (λhc2=>?_)
  ·
   simp at hc2
  ·
   refine ay<|Ret.normal (Ret.zero Tryz.results128 ?_)
   exact hk
theorem u7{R:List RO}{O:List Own}{POST:Value->List RO->List Own->Prop}{b:Nat}{p v:Value}(hp:p= .pointer none∨p= .pointer (some ⟨b,0,none⟩))
 (hk:POST (.tuple #[]) R (az b 141 [.pointer (some ⟨b,0,none⟩),v]::O)):
 Fun Tryz.prog 128 #[.pointer (some ⟨b,0,none⟩)] R (az b 141 [p,v]::O) POST:=by
 rcases hp with rfl|rfl
 ·exact vW hk
 ·exact u3 hk
set_option maxRecDepth 20000 in
theorem lF{R:List RO}{O:List Own}{POST:Value->List RO->List Own->Prop}{b:Nat}{p v:Value}{bs s:List UInt8}(hp:p= .pointer none∨p= .pointer (some ⟨b,0,none⟩))(hl:bs.length+s.length<=140737488355328)
 (hk: ∀v',bL v'->POST (.tuple #[.int .i64 s.length,.nilIface]) R (az b 141 [.pointer (some ⟨b,0,none⟩),v']::bt 5 1 (SL.one vy) v' (bs++s)::O)):
 Fun Tryz.prog 69 #[.pointer (some ⟨b,0,none⟩),vs s] R (az b 141 [p,v]::bt 5 1 (SL.one vy) v bs::O) POST:=by
 refine aC (l:=[_,_]) Tryz.func69 rfl Tryz.ntmps69 rfl (L0:=[(0,_),(1,_)]) rfl ?_
 refine aD<|ar rfl<|ar rfl<|a7<|af rfl ?_
 refine aq rfl<|aj rfl rfl aZ an rfl rfl rfl ?_
 refine u7 hp ?_
 refine a7<|af rfl<|af rfl<|ab rfl (aL rfl rfl)<|ab rfl (by exact ak rfl nK rfl rfl) ?_
 refine ab rfl (by exact ax rfl C41 rfl aK (by rfl)) ?_
 refine af rfl<|aq rfl<|o4 rfl S41 Tryz.underlying9 rfl rfl bh (by exact⟨by simp only[maxLen,List.length_append,List.length_nil,List.length_cons,List.length_drop,List.length_take,List.length_map];omega,by omega⟩) rfl rfl ?_;intro v14 hv14
 refine ab rfl (aL rfl rfl)<|ab rfl (by exact ak rfl nK rfl rfl) ?_
 refine aq rfl<|aV rfl Z41 rfl rfl (by assumption) bh (by(simp;done)) rfl ?_
 refine a7<|af rfl<|ab rfl (cg (ts:=#[]) (ty:=0) rfl rfl Tryz.underlying9) ?_
 refine ar rfl<|ar rfl<|aw<|WC.ret (Ret.two Tryz.results69 rfl rfl ?_)
 exact hk _ hv14
set_option maxRecDepth 20000 in
theorem px{R:List RO}{O:List Own}{POST:Value->List RO->List Own->Prop}{b:Nat}{p v:Value}{bs:List UInt8}(hv:bL v)
 (hk:POST (vs bs) R O):
 Fun Tryz.prog 70 #[.pointer (some ⟨b,0,none⟩)] R (az b 141 [p,v]::bt 5 1 (SL.one vy) v bs::O) POST:=by
 refine aC (l:=[_]) Tryz.func70 rfl Tryz.ntmps70 rfl (L0:=[(0,_)]) rfl ?_
 refine aD<|ar rfl<|aw ?_
 refine aF<|WC.drawn (az b 141 [p,v]::O) 12 rfl mixed ?_
 refine ae 0 rfl an aN rfl rfl rfl (al rfl rfl) ?_
 refine ae 1 rfl an aN rfl rfl rfl (aL rfl rfl) ?_
 refine ae 2 rfl an aN rfl rfl rfl ((by exact ak rfl nK rfl rfl)) ?_
 refine ae 3 rfl an aN rfl rfl rfl ((by exact ax rfl C41 rfl aK (by rfl))) ?_
 refine ae 5 rfl an aN rfl rfl rfl (al rfl rfl) ?_
 refine ae 6 rfl an aN rfl rfl rfl (aL rfl rfl) ?_
 refine ae 7 rfl an aN rfl rfl rfl ((by exact ak rfl nK rfl rfl)) ?_
 refine ae 8 rfl an aN rfl rfl rfl ((by exact ax rfl C41 rfl aK (by rfl))) ?_
 refine WD.two 4 9 rfl rfl an rfl rfl ?_ ?_
 ·
  refine OpW.oJ rfl Tryz.underlying220 rfl aK rfl rfl ?_;intro q7 hq7
  refine⟨aN,?_⟩
  refine aS 9 rfl an rfl ?_
  refine OpW.rd rfl rfl ((by exact fB rfl rfl Tryz.underlying41 aK)) ?_
  refine⟨aN,?_⟩
  refine aS 10 rfl an rfl ?_
  refine OpW.oe rfl Tryz.underlying220 an rfl rfl rfl rfl bh hq7 rfl rfl ?_
  refine⟨aN,?_⟩
  refine ae 11 rfl an aN rfl rfl rfl (Rd.assign rfl rfl) ?_
  refine WD.done an ?_
  refine aa<|WC.heap (R':=R) (O':=O) bN ?_
  refine WC.ret (Ret.one Tryz.results70 rfl ?_)
  exact hk
 ·
  refine OpW.rd rfl rfl ((by exact fB rfl rfl Tryz.underlying41 aK)) ?_
  refine⟨aN,?_⟩
  refine aS 4 rfl an rfl ?_
  refine OpW.oJ rfl Tryz.underlying220 rfl aK rfl rfl ?_;intro q7 hq7
  refine⟨aN,?_⟩
  refine aS 10 rfl an rfl ?_
  refine OpW.oe rfl Tryz.underlying220 an rfl rfl rfl rfl bh hq7 rfl rfl ?_
  refine⟨aN,?_⟩
  refine ae 11 rfl an aN rfl rfl rfl (Rd.assign rfl rfl) ?_
  refine WD.done an ?_
  refine aa<|WC.heap (R':=R) (O':=O) bN ?_
  refine WC.ret (Ret.one Tryz.results70 rfl ?_)
  exact hk
end Go.Proofs.YtebpkhlifcffnaaGreatDoor
namespace Go.Proofs.YtebpkhlifcffnaaGreatDoor
open Go Go.SL
def jN(n:Nat):Nat:=if n=0 then 0 else Nat.log2 n+1
theorem cU{n k:Nat}(h:2^k<=n):jN n=jN (n/2^k)+k:=by
 have h1:0<n/2^k:=Nat.div_pos h (Nat.two_pow_pos k)
 have h0:n≠0:=by have:=Nat.two_pow_pos k;omega
 unfold jN
 rw[if_neg h0,if_neg ao]
 have:Nat.log2 n=Nat.log2 (n/2^k)+k:=by
  rw[Nat.log2_eq_iff h0]
  have h3:=Nat.log2_self_le (n:=n/2^k) ao
  have h4:=Nat.lt_log2_self (n:=n/2^k)
  constructor
  ·rw[Nat.pow_add]
   exact(Nat.le_div_iff_mul_le (Nat.two_pow_pos k)).1 h3
  ·rw[show Nat.log2 (n/2^k)+k+1=(Nat.log2 (n/2^k)+1)+k from by omega,Nat.pow_add]
   exact(Nat.div_lt_iff_lt_mul (Nat.two_pow_pos k)).1 h4
 omega
theorem s4{n k:Nat}(h:n<2^k):jN n<=k:=by
 unfold jN
 split
 ·omega
 ·have:=(Nat.log2_lt (n:=n) (k:=k) ao).2 h;omega
theorem M8{n k:Nat}(h:2^k<=n):k<jN n:=by
 have h0:n≠0:=by have:=Nat.two_pow_pos k;omega
 unfold jN
 rw[if_neg h0]
 have:=(Nat.le_log2 h0).2 h;omega
def len8tab:List UInt8:=[0,1,2,2,3,3,3,3,4,4,4,4,4,4,4,4,5,5,5,5,5,5,5,5,5,5,5,5,5,5,5,5,6,6,6,6,6,6,6,6,6,6,6,6,6,6,6,6,6,6,6,6,6,6,6,6,6,6,6,6,6,6,6,6,7,7,7,7,7,7,7,7,7,7,7,7,7,7,7,7,7,7,7,7,7,7,7,7,7,7,7,7,7,7,7,7,7,7,7,7,7,7,7,7,7,7,7,7,7,7,7,7,7,7,7,7,7,7,7,7,7,7,7,7,7,7,7,7,8,8,8,8,8,8,8,8,8,8,8,8,8,8,8,8,8,8,8,8,8,8,8,8,8,8,8,8,8,8,8,8,8,8,8,8,8,8,8,8,8,8,8,8,8,8,8,8,8,8,8,8,8,8,8,8,8,8,8,8,8,8,8,8,8,8,8,8,8,8,8,8,8,8,8,8,8,8,8,8,8,8,8,8,8,8,8,8,8,8,8,8,8,8,8,8,8,8,8,8,8,8,8,8,8,8,8,8,8,8,8,8,8,8,8,8,8,8,8,8,8,8,8,8,8,8,8,8]
theorem IS: ∀n<256,len8tab[n]? =some (UInt8.ofNat (jN n)):=by decide +kernel
theorem MG{n:Nat}(h:n<256):(UInt8.ofNat (jN n)).toNat=jN n:=by
 have:=s4 (n:=n) (k:=8) h
 simp;omega
theorem _root_.Go.SL.jZ{P:Program}{o:Oper}{t:TypeId}{x y:Operand}{L:Env}{R:List RO}{O:List Own}{kd:IntKind}{p:Int}{k:Nat}(ho:o.op= .index t x y)(hT:P.underlying t=some .string)(hx:ev L x=some (vs len8tab))(hy:ev L y=some (.int kd p))(hp:p=(k:Int))(hk:k<256):Rd P o L R O (.int .u8 (jN k:Nat)):=by
 have h:=fb (R:=R) (O:=O) ho hT hx hy hp (IS k hk)
 rw[MG hk] at h;exact h
theorem qC{POST:Value->List RO->List Own->Prop}{R:List RO}{O:List Own}{a b:Int}(h:POST (.int .i64 a) R O)(e:a=b):POST (.int .i64 b) R O:=e▸h
theorem ee(n:Nat)(h:n<256):jN n<=8:=s4 (k:=8) h
set_option maxRecDepth 20000 in
theorem B5{R:List RO}{O:List Own}{POST:Value->List RO->List Own->Prop}{n:Nat}(hn:n<18446744073709551616)(hk:POST (.int .i64 (jN n)) R O):Fun Tryz.prog 209 #[.int .u64 n] R O POST:=by
 refine aC (l:=[_]) Tryz.func209 rfl Tryz.ntmps209 rfl (L0:=[(0,_)]) rfl ?_
 refine aD<|ar rfl<|aw<|bd<|af rfl<|ab rfl (Rd.geq rfl rfl rfl)<|aw ?_
 refine aE rfl (λhc1=>?_) (λhc1=>?_)
 ·
  have e1:=cU (n:=n) (k:=32) ao
  refine aD<|af rfl<|ab rfl (cu (n:=32) rfl rfl rfl rfl rfl ct) ?_
  refine ar rfl<|lE<|ar rfl<|aw<|bd<|af rfl<|ab rfl (Rd.geq rfl rfl rfl)<|aw<|aE rfl (λhc2=>?_) (λhc2=>?_)
  ·
   first|have e2:=cU (n:=n/2^32) (k:=16) ao|have e2:=cU (n:=n) (k:=16) ao
   refine aD<|af rfl<|ab rfl (cu (n:=16) rfl rfl rfl rfl rfl ct) ?_
   refine ar rfl<|lE<|af rfl<|ab rfl (Rd.add rfl rfl rfl ao) ?_
   refine ar rfl<|aw<|bd<|af rfl<|ab rfl (Rd.geq rfl rfl rfl)<|aw<|aE rfl (λhc3=>?_) (λhc3=>?_)
   ·
    first|have e3:=cU (n:=n/2^32/2^16) (k:=8) ao|have e3:=cU (n:=n/2^32) (k:=8) ao|have e3:=cU (n:=n/2^16) (k:=8) ao|have e3:=cU (n:=n) (k:=8) ao
    refine aD<|af rfl<|ab rfl (cu (n:=8) rfl rfl rfl rfl rfl ct) ?_
    refine ar rfl<|lE<|af rfl<|ab rfl (Rd.add rfl rfl rfl ao) ?_
    refine ar rfl<|a7<|af rfl<|af rfl<|ab rfl (ck rfl rfl Tryz.underlying5 (c6 (k:=.u8) rfl (show _<256 by omega)) (hS:=Tryz.underlying197)) ?_
    refine ab rfl (jZ rfl Tryz.underlying9 rfl rfl rfl ao) ?_
    refine ab rfl (ck rfl rfl Tryz.underlying3 (dL (k:=.i64) (Nat.lt_of_le_of_lt (ee _ ao) ct)) (hS:=Tryz.underlying5)) ?_
    refine ab rfl (Rd.add rfl rfl rfl (by(have h8:=ee (n/2^32/2^16/2^8) ao;omega))) ?_
    refine ar rfl<|aw<|WC.ret (Ret.one Tryz.results209 rfl ?_)
    exact qC hk ao
   ·
    refine ay<|aa<|aD<|af rfl<|af rfl<|ab rfl (ck rfl rfl Tryz.underlying5 (c6 (k:=.u8) rfl (show _<256 by omega)) (hS:=Tryz.underlying197)) ?_
    refine ab rfl (jZ rfl Tryz.underlying9 rfl rfl rfl ao) ?_
    refine ab rfl (ck rfl rfl Tryz.underlying3 (dL (k:=.i64) (Nat.lt_of_le_of_lt (ee _ ao) ct)) (hS:=Tryz.underlying5)) ?_
    refine ab rfl (Rd.add rfl rfl rfl (by(have h8:=ee (n/2^32/2^16) ao;omega))) ?_
    refine ar rfl<|aw<|WC.ret (Ret.one Tryz.results209 rfl ?_)
    exact qC hk ao
  ·
   refine ay<|aa<|bd<|af rfl<|ab rfl (Rd.geq rfl rfl rfl)<|aw ?_
   refine aE rfl (λhc3=>?_) (λhc3=>?_)
   ·
    first|have e3:=cU (n:=n/2^32/2^16) (k:=8) ao|have e3:=cU (n:=n/2^32) (k:=8) ao|have e3:=cU (n:=n/2^16) (k:=8) ao|have e3:=cU (n:=n) (k:=8) ao
    refine aD<|af rfl<|ab rfl (cu (n:=8) rfl rfl rfl rfl rfl ct) ?_
    refine ar rfl<|lE<|af rfl<|ab rfl (Rd.add rfl rfl rfl ao) ?_
    refine ar rfl<|a7<|af rfl<|af rfl<|ab rfl (ck rfl rfl Tryz.underlying5 (c6 (k:=.u8) rfl (show _<256 by omega)) (hS:=Tryz.underlying197)) ?_
    refine ab rfl (jZ rfl Tryz.underlying9 rfl rfl rfl ao) ?_
    refine ab rfl (ck rfl rfl Tryz.underlying3 (dL (k:=.i64) (Nat.lt_of_le_of_lt (ee _ ao) ct)) (hS:=Tryz.underlying5)) ?_
    refine ab rfl (Rd.add rfl rfl rfl (by(have h8:=ee (n/2^32/2^8) ao;omega))) ?_
    refine ar rfl<|aw<|WC.ret (Ret.one Tryz.results209 rfl ?_)
    exact qC hk ao
   ·
    refine ay<|aa<|aD<|af rfl<|af rfl<|ab rfl (ck rfl rfl Tryz.underlying5 (c6 (k:=.u8) rfl (show _<256 by omega)) (hS:=Tryz.underlying197)) ?_
    refine ab rfl (jZ rfl Tryz.underlying9 rfl rfl rfl ao) ?_
    refine ab rfl (ck rfl rfl Tryz.underlying3 (dL (k:=.i64) (Nat.lt_of_le_of_lt (ee _ ao) ct)) (hS:=Tryz.underlying5)) ?_
    refine ab rfl (Rd.add rfl rfl rfl (by(have h8:=ee (n/2^32) ao;omega))) ?_
    refine ar rfl<|aw<|WC.ret (Ret.one Tryz.results209 rfl ?_)
    exact qC hk ao
 ·
  refine ay<|aa<|bd<|af rfl<|ab rfl (Rd.geq rfl rfl rfl)<|aw ?_
  refine aE rfl (λhc2=>?_) (λhc2=>?_)
  ·
   first|have e2:=cU (n:=n/2^32) (k:=16) ao|have e2:=cU (n:=n) (k:=16) ao
   refine aD<|af rfl<|ab rfl (cu (n:=16) rfl rfl rfl rfl rfl ct) ?_
   refine ar rfl<|lE<|af rfl<|ab rfl (Rd.add rfl rfl rfl ao) ?_
   refine ar rfl<|aw<|bd<|af rfl<|ab rfl (Rd.geq rfl rfl rfl)<|aw<|aE rfl (λhc3=>?_) (λhc3=>?_)
   ·
    first|have e3:=cU (n:=n/2^32/2^16) (k:=8) ao|have e3:=cU (n:=n/2^32) (k:=8) ao|have e3:=cU (n:=n/2^16) (k:=8) ao|have e3:=cU (n:=n) (k:=8) ao
    refine aD<|af rfl<|ab rfl (cu (n:=8) rfl rfl rfl rfl rfl ct) ?_
    refine ar rfl<|lE<|af rfl<|ab rfl (Rd.add rfl rfl rfl ao) ?_
    refine ar rfl<|a7<|af rfl<|af rfl<|ab rfl (ck rfl rfl Tryz.underlying5 (c6 (k:=.u8) rfl (show _<256 by omega)) (hS:=Tryz.underlying197)) ?_
    refine ab rfl (jZ rfl Tryz.underlying9 rfl rfl rfl ao) ?_
    refine ab rfl (ck rfl rfl Tryz.underlying3 (dL (k:=.i64) (Nat.lt_of_le_of_lt (ee _ ao) ct)) (hS:=Tryz.underlying5)) ?_
    refine ab rfl (Rd.add rfl rfl rfl (by(have h8:=ee (n/2^16/2^8) ao;omega))) ?_
    refine ar rfl<|aw<|WC.ret (Ret.one Tryz.results209 rfl ?_)
    exact qC hk ao
   ·
    refine ay<|aa<|aD<|af rfl<|af rfl<|ab rfl (ck rfl rfl Tryz.underlying5 (c6 (k:=.u8) rfl (show _<256 by omega)) (hS:=Tryz.underlying197)) ?_
    refine ab rfl (jZ rfl Tryz.underlying9 rfl rfl rfl ao) ?_
    refine ab rfl (ck rfl rfl Tryz.underlying3 (dL (k:=.i64) (Nat.lt_of_le_of_lt (ee _ ao) ct)) (hS:=Tryz.underlying5)) ?_
    refine ab rfl (Rd.add rfl rfl rfl (by(have h8:=ee (n/2^16) ao;omega))) ?_
    refine ar rfl<|aw<|WC.ret (Ret.one Tryz.results209 rfl ?_)
    exact qC hk ao
  ·
   refine ay<|aa<|bd<|af rfl<|ab rfl (Rd.geq rfl rfl rfl)<|aw ?_
   refine aE rfl (λhc3=>?_) (λhc3=>?_)
   ·
    first|have e3:=cU (n:=n/2^32/2^16) (k:=8) ao|have e3:=cU (n:=n/2^32) (k:=8) ao|have e3:=cU (n:=n/2^16) (k:=8) ao|have e3:=cU (n:=n) (k:=8) ao
    refine aD<|af rfl<|ab rfl (cu (n:=8) rfl rfl rfl rfl rfl ct) ?_
    refine ar rfl<|lE<|af rfl<|ab rfl (Rd.add rfl rfl rfl ao) ?_
    refine ar rfl<|a7<|af rfl<|af rfl<|ab rfl (ck rfl rfl Tryz.underlying5 (c6 (k:=.u8) rfl (show _<256 by omega)) (hS:=Tryz.underlying197)) ?_
    refine ab rfl (jZ rfl Tryz.underlying9 rfl rfl rfl ao) ?_
    refine ab rfl (ck rfl rfl Tryz.underlying3 (dL (k:=.i64) (Nat.lt_of_le_of_lt (ee _ ao) ct)) (hS:=Tryz.underlying5)) ?_
    refine ab rfl (Rd.add rfl rfl rfl (by(have h8:=ee (n/2^8) ao;omega))) ?_
    refine ar rfl<|aw<|WC.ret (Ret.one Tryz.results209 rfl ?_)
    exact qC hk ao
   ·
    refine ay<|aa<|aD<|af rfl<|af rfl<|ab rfl (ck rfl rfl Tryz.underlying5 (c6 (k:=.u8) rfl (show _<256 by omega)) (hS:=Tryz.underlying197)) ?_
    refine ab rfl (jZ rfl Tryz.underlying9 rfl rfl rfl ao) ?_
    refine ab rfl (ck rfl rfl Tryz.underlying3 (dL (k:=.i64) (Nat.lt_of_le_of_lt (ee _ ao) ct)) (hS:=Tryz.underlying5)) ?_
    refine ab rfl (Rd.add rfl rfl rfl (by(have h8:=ee (n) ao;omega))) ?_
    refine ar rfl<|aw<|WC.ret (Ret.one Tryz.results209 rfl ?_)
    exact qC hk ao
set_option maxRecDepth 20000 in
theorem Ky{R:List RO}{O:List Own}{POST:Value->List RO->List Own->Prop}{n:Nat}(hn:n<18446744073709551616)(hk:POST (.int .i64 (jN n)) R O):Fun Tryz.prog 154 #[.int .u64 n] R O POST:=by
 refine aC (l:=[_]) Tryz.func154 rfl Tryz.ntmps154 rfl (L0:=[(0,_)]) rfl ?_
 refine aD<|ar rfl<|aw ?_
 refine aF<|WC.cond rfl (λhc1=>?_) (λhc1=>?_)
 ·
  simp at hc1
 ·
  refine ay<|aa<|aD<|af rfl ?_
  refine aq rfl<|aj rfl rfl aZ an rfl rfl rfl ?_
  refine B5 hn ?_
  refine ar rfl<|aw<|WC.ret (Ret.one Tryz.results154 rfl ?_)
  exact hk
set_option maxRecDepth 20000 in
theorem Gl{R:List RO}{O:List Own}{POST:Value->List RO->List Own->Prop}{n:Nat}(hn:n<256)(hk:POST (.int .i64 (jN n)) R O):Fun Tryz.prog 223 #[.int .u8 n] R O POST:=by
 refine aC (l:=[_]) Tryz.func223 rfl Tryz.ntmps223 rfl (L0:=[(0,_)]) rfl ?_
 refine aD<|ar rfl<|a7<|af rfl<|ab rfl (jZ rfl Tryz.underlying9 rfl rfl rfl hn)<|ab rfl (ck rfl rfl Tryz.underlying3 (dL (k:=.i64) (Nat.lt_of_le_of_lt (ee _ hn) ct)) (hS:=Tryz.underlying5)) ?_
 refine ar rfl<|aw<|WC.ret (Ret.one Tryz.results223 rfl ?_)
 exact hk
set_option maxRecDepth 20000 in
theorem AK{R:List RO}{O:List Own}{POST:Value->List RO->List Own->Prop}{n:Nat}(hn:n<256)(hk:POST (.int .i64 ((8-jN n:Nat):Int)) R O):Fun Tryz.prog 170 #[.int .u8 n] R O POST:=by
 have h8:=ee n hn
 refine aC (l:=[_]) Tryz.func170 rfl Tryz.ntmps170 rfl (L0:=[(0,_)]) rfl ?_
 refine aD<|ar rfl<|a7<|af rfl ?_
 refine aq rfl<|aj rfl rfl aZ an rfl rfl rfl ?_
 refine Gl hn ?_
 refine ab rfl (Rd.sub rfl rfl rfl ao) ?_
 refine ar rfl<|aw<|WC.ret (Ret.one Tryz.results170 rfl ?_)
 exact qC hk ao
def more(n:Nat):Nat:=(jN n-1)/7
set_option maxRecDepth 20000 in
theorem rY{R:List RO}{O:List Own}{POST:Value->List RO->List Own->Prop}{n:Nat}(hn:n<=9223372036854775807)(hk:POST (.int .i64 (more n)) R O):Fun Tryz.prog 137 #[.int .i64 n] R O POST:=by
 have h8:=s4 (n:=n) (k:=63) ao
 refine aC (l:=[_]) Tryz.func137 rfl Tryz.ntmps137 rfl (L0:=[(0,_)]) rfl ?_
 refine aD<|ar rfl<|a7<|af rfl<|ab rfl (ck rfl rfl Tryz.underlying71 (c6 (k:=.u64) rfl (show _<18446744073709551616 by omega)) (hS:=Tryz.underlying3)) ?_
 refine aq rfl<|aj rfl rfl aZ an rfl rfl rfl ?_
 refine Ky ao ?_
 refine ab rfl (Rd.sub rfl rfl rfl ao) ?_
 refine ab rfl (qE rfl rfl rfl)<|aU 7 (u:=.int .i64 ((jN n-1:Nat):Int)) rfl (by congr 1;omega) ?_
 refine ab rfl (mO (b:=7) rfl rfl rfl rfl rfl ct ao) ?_
 refine ar rfl<|aw<|WC.ret (Ret.one Tryz.results137 rfl ?_)
 exact hk
end Go.Proofs.YtebpkhlifcffnaaGreatDoor
namespace Go.Proofs.YtebpkhlifcffnaaGreatDoor
open Go Go.SL
def beb:Nat->Nat->List UInt8
 |0,_=>[]
 |i+1,n=>UInt8.ofNat (n/256^i%256)::beb i n
theorem ko: ∀(i n:Nat),(beb i n).length=i
 |0,_=>rfl
 |i+1,n=>by rw[beb,List.length_cons,ko i n]
def mask(k:Nat):Nat:=256-2^(8-k)
def cV(n:Nat):List UInt8:=UInt8.ofNat (n/256^more n+mask (more n))::beb (more n) n
def vV(p:Int):List UInt8:=if p<0∨1099511627776<p then [] else cV p.toNat
theorem c5(n:Nat):(cV n).length=more n+1:=by rw[cV,List.length_cons,ko]
theorem yD{n k:Nat}:n<128^(k+1)↔more n<=k:=by
 have e:(128:Nat)^(k+1)=2^(7*(k+1)):=by rw[Nat.pow_mul]
 rw[e]
 constructor
 ·intro h
  have:=s4 h
  unfold more;omega
 ·intro h
  rcases Nat.lt_or_ge n (2^(7*(k+1))) with h1|h1
  ·exact h1
  ·have:=M8 h1
   unfold more at h;omega
theorem sX{n:Nat}(h:n<=1099511627776):more n<=5:=yD.1 (Nat.lt_of_le_of_lt h ct)
theorem Fc{n:Nat}(h:n<=1099511627776):n/256^more n<2^(7-more n):=by
 have h5:=sX h
 have h1:n<128^(more n+1):=yD.2 (Nat.le_refl _)
 generalize more n=k at*
 rw[Nat.div_lt_iff_lt_mul (Nat.pow_pos ct)]
 refine Nat.lt_of_lt_of_le h1 ?_
 have: ∀k,k<=5->128^(k+1)<=2^(7-k)*256^k:=by decide
 exact this k h5
theorem Ly: ∀k,k<=5-> ∀x,x<2^(7-k)->x ||| (255-255/2^k)=x+mask k:=by decide +kernel
theorem Ay: ∀k,k<=5->2^(7-k)+mask k<=256:=by decide
theorem kL{x:Nat}(h:x<256):(UInt8.ofNat x).toNat=x:=by simp;omega
theorem ib(a:Nat):IntKind.u8.wrap (a:Int)=((UInt8.ofNat (a%256)).toNat:Int):=by
 rw[kL (Nat.mod_lt _ ct)]
 simp only[IntKind.wrap,IntKind.signed,IntKind.bits,Bool.false_and,Bool.false_eq_true,if_false];omega
theorem GZ{α:Type}(k:Nat)(z v:α)(l:List α):(List.replicate (k+1) z++l).set k v=List.replicate k z++v::l:=by
 rw[List.set_append_left _ _ (by simp),List.replicate_succ',List.set_append_right _ _ (by simp)]
 simp
theorem H5{n m j:Nat}(hj:j<=m):(List.replicate (m+1-j) (Value.int .u8 0)++(beb j n).map vy).set (m-j) (vy (UInt8.ofNat (n/256^j%256)))=List.replicate (m+1-(j+1)) (Value.int .u8 0)++(beb (j+1) n).map vy:=by
 rw[show m+1-j=(m-j)+1 from by omega,GZ,show m+1-(j+1)=m-j from by omega]
 rfl
theorem IM(n j:Nat):n/256^j/2^8=n/256^(j+1):=by rw[Nat.div_div_eq_div_mul];rfl
set_option maxRecDepth 20000 in
theorem Mf{R:List RO}{O:List Own}{POST:Value->List RO->List Own->Prop}{p:Int}(hp:p<0∨1099511627776<p)(hk:POST (vs []) R O):Fun Tryz.prog 79 #[.int .i64 p] R O POST:=by
 refine aC (l:=[_]) Tryz.func79 rfl Tryz.ntmps79 rfl (L0:=[(0,_)]) rfl ?_
 refine aD<|ar rfl<|aw ?_
 refine aF<|WC.pick [0] eS ?_
 refine WC.val 11 (.bool (decide (p<0∨1099511627776<p))) ?_ ?_
 ·
  refine aB<|af rfl<|ab rfl (Rd.lss rfl rfl rfl)<|af rfl<|WL.case 8 rfl (λhg8=>?_) (λhg8=>?_)
  ·
   refine aW rfl<|aW rfl<|ab rfl (aY rfl rfl rfl)<|aG ?_
   exact⟨by repeat(first|exact Sub.nil|refine Sub.cons rfl (by first|rfl|(exact pd ao)) ?_),by exact(λ_ h=>h.thin (cB.mem cz))⟩
  ·
   refine aT rfl (al rfl rfl)<|aT rfl (Rd.gtr rfl rfl rfl)<|ab rfl (aQ rfl rfl rfl)<|aG ?_
   exact⟨by repeat(first|exact Sub.nil|refine Sub.cons rfl (by first|rfl|(exact vb ao)) ?_),by exact(λ_ h=>h.thin (cB.mem cz))⟩
 ·
  refine aE rfl (λhc1=>?_) (λhc1=>?_)
  ·
   refine aD<|ar rfl<|aw ?_
   refine WC.ret (Ret.one Tryz.results79 rfl ?_)
   exact hk
  ·
   exfalso;omega
set_option maxRecDepth 20000 in
set_option maxHeartbeats 1000000 in
theorem JO{R:List RO}{O:List Own}{POST:Value->List RO->List Own->Prop}{n:Nat}(hn:n<=1099511627776)(hk:POST (vs (cV n)) R O):Fun Tryz.prog 79 #[.int .i64 n] R O POST:=by
 have h5:=sX hn
 have hh:=Fc hn
 have hms:=Ay _ h5
 have hpl:=c5 n
 refine aC (l:=[_]) Tryz.func79 rfl Tryz.ntmps79 rfl (L0:=[(0,_)]) rfl ?_
 refine aD<|ar rfl<|aw ?_
 refine aF<|WC.pick [0] eS ?_
 refine WC.val 11 (.bool (decide ((n:Int)<0∨1099511627776<(n:Int)))) ?_ ?_
 ·
  refine aB<|af rfl<|ab rfl (Rd.lss rfl rfl rfl)<|af rfl<|WL.case 8 rfl (λhg8=>?_) (λhg8=>?_)
  ·
   refine aW rfl<|aW rfl<|ab rfl (aY rfl rfl rfl)<|aG ?_
   exact⟨by repeat(first|exact Sub.nil|refine Sub.cons rfl (by first|rfl|(exact pd ao)) ?_),by exact(λ_ h=>h.thin (cB.mem cz))⟩
  ·
   refine aT rfl (al rfl rfl)<|aT rfl (Rd.gtr rfl rfl rfl)<|ab rfl (aQ rfl rfl rfl)<|aG ?_
   exact⟨by repeat(first|exact Sub.nil|refine Sub.cons rfl (by first|rfl|(exact vb ao)) ?_),by exact(λ_ h=>h.thin (cB.mem cz))⟩
 ·
  refine aE rfl (λhc1=>?_) (λhc1=>?_)
  ·
   exfalso;omega
  ·
   refine ay<|aa<|aD<|af rfl ?_
   refine aq rfl<|aj rfl rfl aZ an rfl rfl rfl ?_
   refine rY ao ?_
   refine ar rfl<|a7<|af rfl<|ab rfl (Rd.add rfl rfl rfl ao) ?_
   refine aq rfl<|kc (m:=more n+1) (c:=more n+1) rfl S41 rfl rfl rfl rfl rfl ao ao ao rfl rfl ?_;intro b16
   refine ar rfl<|aw<|bd<|af rfl<|ar rfl<|aw<|WC.block ?_
   refine WC.pick [5,0,3,4] eS ?_
   refine WC.iJ 2 (λ(j:Nat)=>[(5,.int .i64 ((more n:Int)-j)),(0,.int .i64 ((n/256^j:Nat):Int))]) (λ(j:Nat)=>az b16 5 (List.replicate (more n+1-j) (.int .u8 0)++(beb j n).map vy)::O) (λ(j:Nat)=>j<=more n+1) (λ(j:Nat)=>more n+1-j) (0) iw ?hinv1 (by repeat(first|exact Sub.nil|refine Sub.cons rfl (by first|rfl|(congr 1;omega)) ?_)) (λw h=>by simpa [beb] using h) ?_
   case hinv1=>
    exact Nat.zero_le _
   intro j
   rintro h1
   refine bd<|af rfl<|ab rfl (Rd.geq rfl rfl rfl)<|aw ?_
   refine aE rfl (λhc2=>?_) (λhc2=>?_)
   ·
    refine ay<|aa<|aF<|WC.block ?_
    refine aD<|af rfl<|af rfl<|af rfl<|ab rfl (by exact cX rfl rfl Tryz.underlying5 (hS:=Tryz.underlying3)) ?_
    refine aU 25 (u:=vy (UInt8.ofNat (n/256^j%256))) rfl (by rw[ib]) ?_
    refine ab rfl (by exact mc (k:=more n-j) rfl S41 rfl rfl ao ao) ?_
    refine aq rfl<|aV rfl Z5 rfl rfl (by exact⟨rfl,rfl⟩) bh (by(simp only[List.length_append,List.length_replicate,List.length_map,List.length_set];omega)) rfl ?_
    refine WL.heap (λw h=>by rw[H5 ao] at h;exact h) ?_
    refine lE<|af rfl<|ab rfl (cu (n:=8) rfl rfl rfl rfl rfl ct) ?_
    refine aU 28 (u:=.int .i64 ((n/256^(j+1):Nat):Int)) rfl (by rw[IM]) ?_
    refine ar rfl<|aG<|aA<|aa<|aB<|af rfl<|ab rfl (Rd.sub rfl rfl rfl ao) ?_
    exact ar rfl<|aG<|bq.mk (j+1) ao ao (by repeat(first|exact Sub.nil|refine Sub.cons rfl (by first|rfl|(congr 1;omega)) ?_)) bN
   ·
    refine WC.exit<|au.exit<|bq.exit<|aH.exit<|aa<|aF<|WC.heap (R':=R) (O':=az b16 5 (vy (UInt8.ofNat (n/256^more n%256))::(beb (more n) n).map vy)::O) (λw h=>by
    obtain rfl:j=more n+1:=by omega
    rw[Nat.sub_self] at h
    exact h) ?_
    refine WC.tail 8 mixed an ?_
    refine bn rfl (al rfl rfl)<|bn rfl (by exact mc (k:=0) rfl S41 rfl rfl ao ao) ?_
    refine bn rfl (by exact ax rfl C5 rfl aK (by rfl)) ?_
    refine bn rfl (al rfl rfl)<|bn rfl (cu (a:=255) (n:=more n) rfl rfl rfl rfl rfl (by show more n<=8;omega)) ?_
    refine bn rfl (Fk rfl rfl rfl (Nat.lt_of_le_of_lt (Nat.div_le_self _ _) ct)) ?_
    refine bn rfl (ze rfl rfl rfl rfl rfl rfl (UInt8.toNat_lt _) (Nat.lt_of_le_of_lt (Nat.sub_le _ _) ct)) ?_
    refine WS.say 35 (u:=vy (UInt8.ofNat (n/256^more n+mask (more n)))) rfl (by rw[kL (Nat.mod_lt _ ct),Nat.mod_eq_of_lt (Nat.lt_of_lt_of_le hh ao),Ly _ h5 _ hh,vy,kL ao]) ?_
    refine bn rfl (by exact mc (k:=0) rfl S41 rfl rfl ao ao) ?_
    refine dm<|aq rfl<|aV rfl Z5 rfl rfl (by exact⟨rfl,rfl⟩) bh (by(simp;done)) rfl ?_
    refine a7<|af rfl<|ab rfl (bY (bs:=cV n) rfl Tryz.underlying41 Tryz.underlying9 Tryz.underlying5 rfl aK rfl hpl ao) ?_
    refine ar rfl<|aw<|WC.heap (R':=R) (O':=O) bN ?_
    refine WC.ret (Ret.one Tryz.results79 rfl ?_)
    exact hk
theorem nA{R:List RO}{O:List Own}{POST:Value->List RO->List Own->Prop}{p:Int}(hk:POST (vs (vV p)) R O):Fun Tryz.prog 79 #[.int .i64 p] R O POST:=by
 unfold vV at hk
 by_cases h:p<0∨1099511627776<p
 ·rw[if_pos h] at hk
  exact Mf h hk
 ·rw[if_neg h] at hk
  obtain⟨n,rfl⟩: ∃n:Nat,p=n:=⟨p.toNat,by omega⟩
  exact JO ao hk
end Go.Proofs.YtebpkhlifcffnaaGreatDoor
namespace Go.Proofs.YtebpkhlifcffnaaGreatDoor
open Go Go.SL
def lead(b:UInt8):Nat:=8-jN (255-b.toNat)
def num(n:Nat)(r:List UInt8):Nat:=r.foldl (λn c=>256*n+c.toNat) n
def fF:List UInt8->Int×Int×Int
 | []=>(0,0,3)
 |b::r=>
  if 5<lead b then(0,0,2)
  else if r.length<lead b then(0,0,3)
  else if 1099511627776<num (b.toNat-mask (lead b)) (r.take (lead b))∨more (num (b.toNat-mask (lead b)) (r.take (lead b)))≠lead b then(0,0,2)
  else(num (b.toNat-mask (lead b)) (r.take (lead b)),lead b+1,0)
theorem MP: ∀b<256,8-jN (255-b)<=5->b &&& (255/2^(8-jN (255-b)))=b-mask (8-jN (255-b))/\mask (8-jN (255-b))<=b/\b-mask (8-jN (255-b))<128:=by decide +kernel
theorem zF{b:UInt8}(h:lead b<=5):b.toNat &&& (255/2^lead b)=b.toNat-mask (lead b)/\mask (lead b)<=b.toNat/\b.toNat-mask (lead b)<128:=MP b.toNat (UInt8.toNat_lt b) h
theorem HU: ∀(r:List UInt8) (n:Nat),num n r<(n+1)*256^r.length
 | [],n=>by simp[num]
 |c::r,n=>by
  have h:=HU r (256*n+c.toNat)
  have hc:=UInt8.toNat_lt c
  simp only[num,List.foldl_cons,List.length_cons] at*
  refine Nat.lt_of_lt_of_le h ?_
  rw[Nat.pow_succ,Nat.mul_comm (256^r.length) 256,←Nat.mul_assoc]
  exact Nat.mul_le_mul_right _ ao
theorem Kw{r:List UInt8}{n i:Nat}{c:UInt8}(h:r[i]? =some c):num n (r.take (i+1))=256*num n (r.take i)+c.toNat:=by
 have:r.take (i+1)=r.take i++[c]:=by
  rw[List.take_add_one,h];rfl
 rw[this,num,List.foldl_append];rfl
theorem FE{R:List RO}{O:List Own}{POST:Value->List RO->List Own->Prop}{b:UInt8}(hk:POST (.int .i64 (lead b:Nat)) R O):Fun Tryz.prog 170 #[.int .u8 ((255-b.toNat:Nat):Int)] R O POST:=
 AK (by have:=UInt8.toNat_lt b;omega) hk
theorem wz{r:List UInt8}{n i:Nat}(hn:n<128)(hi:i<=5):num n (r.take i)<128*256^5:=by
 have h:=HU (r.take i) n
 refine Nat.lt_of_lt_of_le h ?_
 refine Nat.mul_le_mul ao (Nat.pow_le_pow_right ct ?_)
 rw[List.length_take];omega
theorem IC(a:Nat)(c:UInt8):a*2^8 ||| c.toNat=256*a+c.toNat:=by
 rw[Nat.mul_comm,←Nat.two_pow_add_eq_or_of_lt (UInt8.toNat_lt c)]
set_option maxRecDepth 20000 in
set_option maxHeartbeats 1000000 in
theorem AU{R:List RO}{O:List Own}{POST:Value->List RO->List Own->Prop}{s:List UInt8}(hs:s.length<=9223372036854775807)
 (hk:POST (.tuple #[.int .i64 (fF s).1,.int .i64 (fF s).2.1,.int .i64 (fF s).2.2]) R O):Fun Tryz.prog 112 #[vs s] R O POST:=by
 refine aC (l:=[_]) Tryz.func112 rfl Tryz.ntmps112 rfl (L0:=[(0,_)]) rfl ?_
 refine aD<|ar rfl<|ar rfl<|ar rfl<|aw<|bd<|af rfl<|ab rfl (lq rfl rfl rfl)<|aw ?_
 refine aE rfl (λhc1=>?_) (λhc1=>?_)
 ·
  obtain rfl:s=[]:=by simpa using hc1
  refine aD<|ar rfl<|ar rfl<|ar rfl<|aw ?_
  refine WC.ret (dn Tryz.results112 rfl rfl rfl ?_)
  exact hk
 ·
  obtain⟨b,r,rfl⟩: ∃b r,s=b::r:=by
   cases s with
   |nil=>exact absurd rfl hc1
   |cons b r=>exact⟨b,r,rfl⟩
  have hb:=UInt8.toNat_lt b
  refine ay<|aa<|aD<|af rfl<|ab rfl (fb (k:=0) rfl Tryz.underlying9 rfl rfl rfl rfl) ?_
  refine ab rfl (Fk rfl rfl rfl (UInt8.toNat_lt b))<|aq rfl<|aj rfl rfl aZ an rfl rfl rfl ?_
  refine FE ?_
  refine ar rfl<|aw<|aF<|WC.block ?_
  refine aD<|af rfl<|ab rfl (Rd.gtr rfl rfl rfl)<|ar rfl<|aw ?_
  refine aE rfl (λhc2=>?_) (λhc2=>?_)
  ·
   refine aD<|ar rfl<|ar rfl<|ar rfl<|aw ?_
   refine WC.ret (dn Tryz.results112 rfl rfl rfl ?_)
   have e:fF (b::r)=(0,0,2):=by rw[fF,if_pos ao]
   rw[e] at hk;exact hk
  ·
   refine aD<|af rfl<|ab rfl (cg (ts:=#[]) (ty:=0) rfl rfl Tryz.underlying9) ?_
   refine af rfl<|ab rfl (Rd.leq rfl rfl rfl)<|ar rfl<|aw<|aE rfl (λhc3=>?_) (λhc3=>?_)
   ·
    refine aD<|ar rfl<|ar rfl<|ar rfl<|aw ?_
    refine WC.ret (dn Tryz.results112 rfl rfl rfl ?_)
    have e:fF (b::r)=(0,0,3):=by rw[fF,if_neg ao,if_pos (by simp at hc3;omega)]
    rw[e] at hk;exact hk
   ·
    have h5:lead b<=5:=by omega
    have hr:lead b<=r.length:=by simp at hc3;omega
    obtain⟨ha1,ha2,ha3⟩:=zF h5
    refine ay<|aA<|aa<|aF<|WC.still mixed an ?_
    refine dP rfl (al rfl rfl)<|dP rfl (fb (k:=0) rfl Tryz.underlying9 rfl rfl rfl rfl) ?_
    refine dP rfl (al rfl rfl)<|dP rfl (cu (a:=255) (n:=lead b) rfl rfl rfl rfl rfl (by show lead b<=8;omega)) ?_
    refine dP rfl (iP rfl rfl rfl rfl rfl rfl (UInt8.toNat_lt b) (Nat.lt_of_le_of_lt (Nat.div_le_self _ _) ct)) ?_
    refine WA.say 26 (u:=.int .u8 ((b.toNat-mask (lead b):Nat):Int)) rfl (by rw[ha1]) ?_
    refine dP rfl (ck rfl rfl Tryz.underlying3 (dL (k:=.i64) (Nat.lt_of_lt_of_le ha3 ct)) (hS:=Tryz.underlying5)) ?_
    refine dP rfl (Rd.assign rfl rfl)<|WA.nil<|aa<|bd<|ar rfl<|aw ?_
    refine WC.block ?_
    refine WC.pick [7,6,0,5] eS ?_
    refine WC.lx 2 (λ(i:Nat)=>[(7,.int .i64 ((i:Int)+1)),(6,.int .i64 ((num (b.toNat-mask (lead b)) (r.take i):Nat):Int))]) (λ(i:Nat)=>i<=lead b) (λ(i:Nat)=>lead b-i) (0) iw ?hinv1 cC (λ_ h=>h) ?_
    case hinv1=>
     exact Nat.zero_le _
    intro i
    rintro h1
    refine bd<|af rfl<|af rfl<|ab rfl (Rd.leq rfl rfl rfl)<|aw ?_
    refine aE rfl (λhc4=>?_) (λhc4=>?_)
    ·
     have hsm:=wz (r:=r) (i:=i) ha3 ao;have hc:=UInt8.toNat_lt r[i]!
     refine ay<|aa<|aF<|WC.block ?_
     refine aB<|af rfl<|ab rfl (tf (n:=8) rfl rfl rfl rfl rfl ct ao) ?_
     refine af rfl<|af rfl<|ab rfl (fb (k:=i+1) (b:=r[i]!) rfl Tryz.underlying9 rfl rfl ao (by rw[List.getElem?_cons_succ];exact get!_of_lt ao)) ?_
     refine ab rfl (ck rfl rfl Tryz.underlying3 (dL (k:=.i64) (Nat.lt_of_lt_of_le hc ct)) (hS:=Tryz.underlying5)) ?_
     refine ab rfl (Dp rfl rfl rfl rfl rfl (show _<9223372036854775808 by omega) (show _<9223372036854775808 by omega)) ?_
     refine aU 39 (u:=.int .i64 ((num (b.toNat-mask (lead b)) (r.take (i+1)):Nat):Int)) rfl (by rw[Kw (get!_of_lt (xs:=r) ao),IC]) ?_
     refine ar rfl<|aG<|aA<|aa<|aB<|af rfl<|ab rfl (Rd.add rfl rfl rfl ao) ?_
     exact ar rfl<|aG<|bq.mk (i+1) ao ao cC bN
    ·
     obtain rfl:i=lead b:=by omega
     have hsm:=wz (r:=r) (i:=lead b) ha3 h5
     refine WC.exit<|au.exit<|bq.exit<|aH.exit<|aa<|aF<|WC.pick [5,6] eS ?_
     refine WC.val 47 (.bool (decide (1099511627776<num (b.toNat-mask (lead b)) (r.take (lead b))∨more (num (b.toNat-mask (lead b)) (r.take (lead b)))≠lead b))) ?_ ?_
     ·
      refine aB<|af rfl<|ab rfl (Rd.gtr rfl rfl rfl)<|af rfl<|WL.case 42 rfl (λhg42=>?_) (λhg42=>?_)
      ·
       refine aW rfl<|aW rfl<|aW rfl<|aW rfl<|ab rfl (aY rfl rfl rfl)<|aG ?_
       exact⟨by repeat(first|exact Sub.nil|refine Sub.cons rfl (by first|rfl|(exact pd (.inl ao))) ?_),by exact(λ_ h=>h.thin (cB.mem cz))⟩
      ·
       refine aT rfl (al rfl rfl)<|WL.c4 rfl rfl rfl rfl<|aj rfl rfl aZ an rfl rfl rfl ?_
       refine rY ao ?_
       refine aT rfl (al rfl rfl)<|aT rfl (Rd.neq rfl rfl rfl)<|ab rfl (aQ rfl rfl rfl)<|aG ?_
       exact⟨by repeat(first|exact Sub.nil|refine Sub.cons rfl (by first|rfl|(exact vb ⟨λh=>.inr ao,λh=>by omega⟩)) ?_),by exact(λ_ h=>h.thin (cB.mem cz))⟩
     ·
      refine aE rfl (λhc5=>?_) (λhc5=>?_)
      ·
       refine aD<|ar rfl<|ar rfl<|ar rfl<|aw ?_
       refine WC.ret (dn Tryz.results112 rfl rfl rfl ?_)
       have e:fF (b::r)=(0,0,2):=by rw[fF,if_neg ao,if_neg ao,if_pos hc5]
       rw[e] at hk;exact hk
      ·
       refine ay<|aa<|aD<|af rfl<|af rfl<|ab rfl (Rd.add rfl rfl rfl ao) ?_
       refine ar rfl<|ar rfl<|ar rfl<|aw<|WC.ret (dn Tryz.results112 rfl rfl rfl ?_)
       have e:fF (b::r)=(((num (b.toNat-mask (lead b)) (r.take (lead b)):Nat):Int),(lead b:Int)+1,(0:Int)):=by rw[fF,if_neg ao,if_neg ao,if_neg hc5]
       rw[e] at hk;exact hk
def bD(l:List (List UInt8)):List UInt8:=l.flatMap λs=>vV s.length++s
theorem ui{l:List (List UInt8)}{i:Nat}(h:i<l.length):bD (l.take (i+1))=(bD (l.take i)++vV (l[i]!.length:Nat))++l[i]! :=by
 rw[List.take_add_one,get!_of_lt h,bD,bD,List.flatMap_append,List.append_assoc]
 simp
theorem vU(l:List (List UInt8))(i:Nat):(bD (l.take i)).length<=(bD l).length:=by
 have h:bD l=bD (l.take i)++bD (l.drop i):=by
  rw[bD,bD,bD,←List.flatMap_append,List.take_append_drop]
 rw[h,List.length_append];omega
set_option maxRecDepth 20000 in
set_option maxHeartbeats 1000000 in
theorem eo{R:List RO}{O:List Own}{POST:Value->List RO->List Own->Prop}{l:List (List UInt8)}{lv:Value}(hl:SlE (SL.one vs) lv l∈R)(hj:(bD l).length<=140737488355328)(hk:POST (vs (bD l)) R O):Fun Tryz.prog 37 #[lv] R O POST:=by
 refine Fun.len hl λhll=>?_
 refine aC (l:=[_]) Tryz.func37 rfl Tryz.ntmps37 rfl (L0:=[(0,_)]) rfl ?_
 refine aD<|ar rfl<|a7 ?_
 refine aq rfl<|OpW.alloc rfl wa rfl ba rfl rfl ?_;intro b3
 refine aw<|aF<|aF<|WC.heap (λw h=>(h.dH (α:=UInt8) (e:=5) (size:=1) (enc:=SL.one vy)).swap) ?_
 refine aB<|af rfl<|ab rfl (by exact bu rfl rfl Tryz.underlying37 aK) ?_
 refine af rfl<|aw<|WC.block ?_
 refine WC.pick [8,3,6,7] eS ?_
 refine WC.rR 1 (λ(i:Nat) (p:Value) (v:Value)=>[(8,.int .i64 (i:Int))]) (λ(i:Nat) (p:Value) (v:Value)=>az b3 141 [p,v]::bt 5 1 (SL.one vy) v (bD (l.take i))::O) (λ(i:Nat) (p:Value) (v:Value)=>i<=l.length/\(p= .pointer none∨p= .pointer (some ⟨b3,0,none⟩))/\bL v) (λ(i:Nat) (p:Value) (v:Value)=>l.length-i) (0) (_) (_) iw ?hinv1 cC (λ_ h=>h) ?_
 case hinv1=>
  exact⟨Nat.zero_le _,.inl rfl,bL.sl⟩
 intro i p v
 rintro⟨h1,h2,h3⟩
 refine aD<|ab rfl (Rd.lss rfl rfl rfl)<|aw ?_
 refine aF<|aE rfl (λhc1=>?_) (λhc1=>?_)
 ·
  have hjs:=vU l (i+1)
  have hje:=congrArg List.length (ui (l:=l) (i:=i) ao)
  rw[List.length_append,List.length_append] at hje
  refine ay<|aa<|aF<|WC.block ?_
  refine aD<|ab rfl (by exact c9 (k:=i) rfl S37 rfl rfl ao aK ao) ?_
  refine ab rfl (by exact Rd.get rfl C9 rfl aK (by exact get!_of_lt ao)) ?_
  refine ar rfl<|a7<|af rfl<|ab rfl (cg (ts:=#[]) (ty:=0) rfl rfl Tryz.underlying9) ?_
  refine aq rfl<|aj rfl rfl aZ an rfl rfl rfl ?_
  refine nA ?_
  refine aq rfl<|aj rfl rfl aZ an rfl rfl rfl ?_
  refine lF h2 ao ?_;intro v15 hv15
  refine lE<|af rfl ?_
  refine aq rfl<|aj rfl rfl aZ an rfl rfl rfl ?_
  refine lF (.inr rfl) (by rw[List.length_append];omega) ?_;intro v17 hv17
  refine aG<|aA<|aa<|aB<|ab rfl (Rd.add rfl rfl rfl ao) ?_
  exact af rfl<|aG<|dN.mk (i+1) (.pointer (some ⟨b3,0,none⟩)) v17 ⟨by omega,.inr rfl,hv17⟩ ao cC (λw h=>by rw[ui ao];exact h)
 ·
  refine WC.exit<|au.exit<|dN.exit<|aH.exit<|aa<|aF ?_
  have hi:l.take i=l:=List.take_of_length_le ao
  rw[hi]
  refine aB<|aq rfl<|aj rfl rfl aZ an rfl rfl rfl ?_
  refine px h3 ?_
  refine ar rfl<|aw<|WC.ret (Ret.one Tryz.results37 rfl ?_)
  exact hk
end Go.Proofs.YtebpkhlifcffnaaGreatDoor
namespace Go.Proofs.YtebpkhlifcffnaaGreatDoor
open Go Go.SL
def st(x:Nat):Nat:=x/2 ^^^ (if x%2=1 then 3988292384 else 0)
def stn:Nat->Nat->Nat
 |0,x=>x
 |k+1,x=>stn k (st x)
theorem HJ(a b c d:Nat):(a ^^^ b) ^^^ (c ^^^ d)=(a ^^^ c) ^^^ (b ^^^ d):=by
 apply Nat.eq_of_testBit_eq;intro i
 simp only[Nat.testBit_xor]
 cases a.testBit i<;>cases b.testBit i<;>cases c.testBit i<;>cases d.testBit i<;>rfl
theorem Pa(a b:Nat):st (a ^^^ b)=st a ^^^ st b:=by
 unfold st
 rw[Nat.xor_div_two,HJ (a/2)]
 congr 1
 by_cases h1:a%2=1<;>by_cases h2:b%2=1<;>simp[Nat.xor_mod_two_eq_one,h1,h2]
theorem Qr{x:Nat}(h:x<2^32):st x<2^32:=Nat.xor_lt_two_pow ao (by split<;>decide)
theorem P1(x:Nat):st (2*x)=x:=by
 unfold st
 rw[if_neg ao,Nat.xor_zero];omega
theorem EO: ∀(k a b:Nat),stn k (a ^^^ b)=stn k a ^^^ stn k b
 |0,_,_=>rfl
 |k+1,a,b=>by rw[stn,Pa,EO k];rfl
theorem vt: ∀(k:Nat) {x:Nat},x<2^32->stn k x<2^32
 |0,_,h=>h
 |k+1,_,h=>vt k (Qr h)
theorem EM: ∀(a b x:Nat),stn (a+b) x=stn b (stn a x)
 |0,b,x=>by rw[Nat.zero_add];rfl
 |a+1,b,x=>by rw[show a+1+b=(a+b)+1 from by omega,stn,EM a b];rfl
theorem Fb: ∀(k x:Nat),stn k (2^k*x)=x
 |0,x=>by rw[Nat.pow_zero,Nat.one_mul];rfl
 |k+1,x=>by rw[stn,Nat.pow_succ,show 2^k*2*x=2*(2^k*x) from by rw[Nat.mul_comm (2^k) 2,Nat.mul_assoc],P1,Fb k]
theorem MT(x:Nat):2^4*(x/16) ^^^ (x &&& 15)=x:=by
 have h1:x &&& 15=x%16:=Nat.and_two_pow_sub_one_eq_mod x 4
 rw[h1]
 have e1:(2^4*(x/16) ^^^ (x%16))/2^4=x/16:=by rw[Nat.xor_div_two_pow,Nat.mul_div_cancel_left _ ct,Nat.div_eq_of_lt (Nat.mod_lt _ ct),Nat.xor_zero]
 have e2:(2^4*(x/16) ^^^ (x%16))%2^4=x%16:=by rw[Nat.xor_mod_two_pow,Nat.mul_mod_right,Nat.zero_xor,Nat.mod_mod]
 generalize 2^4*(x/16) ^^^ (x%16)=y at*
 omega
theorem nib(x:Nat):x/2^4 ^^^ stn 4 (x &&& 15)=stn 4 x:=by
 conv=>rhs;rw[←MT x,EO,Fb]
theorem lI(x:Nat):x &&& 15<16:=Nat.lt_of_le_of_lt Nat.and_le_right ct
def PN:List Int:=[0,498536548,997073096,651767980,1994146192,1802195444,1303535960,1342533948,3988292384,4027552580,3604390888,3412177804,2607071920,2262029012,2685067896,3183342108]
def pL:List Value:=PN.map λz=>.int .u32 z
theorem ED{k:Nat}(h:k<16):pL[k]? =some (.int .u32 ((stn 4 k:Nat):Int)):=by
 have: ∀k<16,PN[k]? =some ((stn 4 k:Nat):Int):=by decide +kernel
 rw[pL,List.getElem?_map,this k h];rfl
abbrev ea:RO:=yd 0 pL
def stb(r:Nat)(c:UInt8):Nat:=stn 8 (r ^^^ c.toNat)
def reg(r:Nat)(s:List UInt8):Nat:=s.foldl stb r
theorem P2{r:Nat}(h:r<2^32)(c:UInt8):stb r c<2^32:=vt 8 (Nat.xor_lt_two_pow h (Nat.lt_trans (UInt8.toNat_lt c) ct))
theorem CZ: ∀(s:List UInt8) {r:Nat},r<2^32->reg r s<2^32
 | [],_,h=>h
 |c::s,_,h=>CZ s (P2 h c)
theorem C2(r:Nat)(s t:List UInt8):reg r (s++t)=reg (reg r s) t:=List.foldl_append
theorem JU{s:List UInt8}{i r:Nat}(h:i<s.length):reg r (s.take (i+1))=stb (reg r (s.take i)) s[i]! :=by
 rw[List.take_add_one,get!_of_lt h,C2];rfl
def dx(s:List UInt8):Nat:=4294967295-reg 4294967295 s
set_option maxRecDepth 20000 in
set_option maxHeartbeats 1000000 in
theorem lk{R:List RO}{O:List Own}{POST:Value->List RO->List Own->Prop}{s:List UInt8}(ht:ea∈R)(hs:s.length<=9223372036854775807)
 (hk:POST (.int .u32 (dx s:Nat)) R O):Fun Tryz.prog 127 #[vs s] R O POST:=by
 refine aC (l:=[_]) Tryz.func127 rfl Tryz.ntmps127 rfl (L0:=[(0,_)]) rfl ?_
 refine aD<|ar rfl<|a7<|ar rfl<|aw<|bd<|af rfl<|ab rfl (cg (ts:=#[]) (ty:=0) rfl rfl Tryz.underlying9) ?_
 refine af rfl<|aw<|WC.block ?_
 refine WC.pick [7,3,0,6] eS ?_
 refine WC.lx 2 (λ(i:Nat)=>[(7,.int .i64 (i:Int)),(3,.int .u32 ((reg 4294967295 (s.take i):Nat):Int))]) (λ(i:Nat)=>i<=s.length) (λ(i:Nat)=>s.length-i) (0) iw ?hinv1 cC (λ_ h=>h) ?_
 case hinv1=>
  exact Nat.zero_le _
 intro i
 rintro h1
 have hr:reg 4294967295 (s.take i)<2^32:=CZ _ ct
 refine aD<|ab rfl (Rd.lss rfl rfl rfl)<|aw ?_
 refine aF<|aE rfl (λhc1=>?_) (λhc1=>?_)
 ·
  have hc:s[i]!.toNat<2^32:=Nat.lt_trans (UInt8.toNat_lt s[i]!) ct
  have hX:reg 4294967295 (s.take i) ^^^ s[i]!.toNat<2^32:=Nat.xor_lt_two_pow hr hc
  have hsn:=JU (s:=s) (i:=i) (r:=4294967295) ao
  have hY:stn 4 (reg 4294967295 (s.take i) ^^^ s[i]!.toNat)<2^32:=vt 4 hX
  refine ay<|aa<|aF<|WC.block ?_
  refine aD<|af rfl<|ar rfl<|a7<|af rfl<|af rfl<|af rfl<|ab rfl (fb (k:=i) rfl Tryz.underlying9 rfl rfl ao (by exact get!_of_lt ao)) ?_
  refine ab rfl (ck rfl rfl Tryz.underlying194 (c6 rfl hc) (hS:=Tryz.underlying5)) ?_
  refine ab rfl (e8 rfl rfl rfl rfl rfl rfl hr hc)<|ar rfl<|a7<|af rfl<|ab rfl (cu (a:=reg 4294967295 (s.take i) ^^^ s[i]!.toNat) (n:=4) rfl rfl rfl rfl rfl ct) ?_
  refine af rfl<|ab rfl (iP (a:=reg 4294967295 (s.take i) ^^^ s[i]!.toNat) (b:=15) rfl rfl rfl rfl rfl rfl hX ct) ?_
  refine ab rfl (bg (k:=(reg 4294967295 (s.take i) ^^^ s[i]!.toNat) &&& 15) rfl QS rfl rfl rfl (lI _)) ?_
  refine ab rfl (c8 rfl fC rfl ht (ED (lI _)))<|ab rfl (e8 rfl rfl rfl rfl rfl rfl (Nat.lt_of_le_of_lt (Nat.div_le_self _ _) hX) (vt 4 (Nat.lt_trans (lI _) ct))) ?_
  refine aU 22 (u:=.int .u32 ((stn 4 (reg 4294967295 (s.take i) ^^^ s[i]!.toNat):Nat):Int)) rfl (by rw[nib]) ?_
  refine ar rfl<|lE<|af rfl<|ab rfl (cu (a:=stn 4 (reg 4294967295 (s.take i) ^^^ s[i]!.toNat)) (n:=4) rfl rfl rfl rfl rfl ct) ?_
  refine af rfl<|ab rfl (iP (a:=stn 4 (reg 4294967295 (s.take i) ^^^ s[i]!.toNat)) (b:=15) rfl rfl rfl rfl rfl rfl hY ct) ?_
  refine ab rfl (bg (k:=stn 4 (reg 4294967295 (s.take i) ^^^ s[i]!.toNat) &&& 15) rfl QS rfl rfl rfl (lI _)) ?_
  refine ab rfl (c8 rfl fC rfl ht (ED (lI _)))<|ab rfl (e8 rfl rfl rfl rfl rfl rfl (Nat.lt_of_le_of_lt (Nat.div_le_self _ _) hY) (vt 4 (Nat.lt_trans (lI _) ct))) ?_
  refine aU 29 (u:=.int .u32 ((reg 4294967295 (s.take (i+1)):Nat):Int)) rfl (by rw[nib,←EM,hsn];rfl) ?_
  refine ar rfl<|aG<|aA<|aa<|aB<|ab rfl (Rd.add rfl rfl rfl ao) ?_
  exact af rfl<|aG<|bq.mk (i+1) ao ao cC bN
 ·
  have hi:s.take i=s:=List.take_of_length_le ao
  rw[hi] at hr⊢
  refine WC.exit<|au.exit<|bq.exit<|aH.exit<|aa<|aD<|af rfl<|ab rfl (vR rfl rfl rfl rfl hr rfl) ?_
  refine aU 32 (u:=.int .u32 (dx s:Nat)) rfl rfl ?_
  refine ar rfl<|aw<|WC.ret (Ret.one Tryz.results127 rfl ?_)
  exact hk
theorem EF(s:List UInt8):dx s<2^32:=Nat.lt_of_le_of_lt (Nat.sub_le _ _) ct
end Go.Proofs.YtebpkhlifcffnaaGreatDoor

namespace Go.Proofs.YtebpkhlifcffnaaGreatDoor
open Go Go.SL
theorem LI: ∀{s:List UInt8},(fF s).2.2=0-> ∃n k:Nat,(fF s).1=(n:Int)/\(fF s).2.1=(k:Int)/\1<=k/\k<=s.length/\n<=1099511627776
 | [],h=>by simp[fF] at h
 |b::r,h=>by
  rw[fF] at h⊢
  by_cases h1:5<lead b
  ·rw[if_pos h1] at h;simp at h
  ·rw[if_neg h1] at h⊢
   by_cases h2:r.length<lead b
   ·rw[if_pos h2] at h;simp at h
   ·rw[if_neg h2] at h⊢
    split at h
    ·simp at h
    ·next h3=>
     rw[if_neg h3]
     exact⟨_,lead b+1,rfl,rfl,by omega,by rw[List.length_cons];omega,by omega⟩
def dt(s:List UInt8):List UInt8×Int×Int:=
 if(fF s).2.2≠0 then([],0,(fF s).2.2)
 else if 262144<(fF s).1 then([],0,6)
 else if(s.length:Int)-(fF s).2.1<(fF s).1 then([],0,3)
 else((s.take ((fF s).2.1.toNat+(fF s).1.toNat)).drop (fF s).2.1.toNat,(fF s).2.1+(fF s).1,0)
set_option maxRecDepth 20000 in
theorem rF{R:List RO}{O:List Own}{POST:Value->List RO->List Own->Prop}{s:List UInt8}(hs:s.length<=9223372036854775807)
 (hk:POST (.tuple #[vs (dt s).1,.int .i64 (dt s).2.1,.int .i64 (dt s).2.2]) R O):Fun Tryz.prog 71 #[vs s] R O POST:=by
 refine aC (l:=[_]) Tryz.func71 rfl Tryz.ntmps71 rfl (L0:=[(0,_)]) rfl ?_
 refine aD<|ar rfl<|ar rfl<|ar rfl<|a7<|af rfl ?_
 refine aq rfl<|aj rfl rfl aZ an rfl rfl rfl ?_
 refine AU hs ?_
 refine af rfl<|bH rfl<|bH rfl<|bH rfl<|ar rfl<|ar rfl<|ar rfl<|aw<|aF<|WC.block ?_
 refine aD<|af rfl<|ab rfl (Rd.neq rfl rfl rfl)<|ar rfl<|aw ?_
 refine aE rfl (λhc1=>?_) (λhc1=>?_)
 ·
  refine aD<|af rfl<|ar rfl<|ar rfl<|ar rfl<|aw ?_
  refine WC.ret (dn Tryz.results71 rfl rfl rfl ?_)
  rw[dt,if_pos hc1] at hk;exact hk
 ·
  obtain⟨n,k,hg1,hg2,hk1,hk2,hk3⟩:=LI (s:=s) (Decidable.not_not.1 hc1)
  rw[dt,if_neg hc1] at hk
  rw[hg1,hg2] at hk⊢
  refine aD<|af rfl<|ab rfl (Rd.gtr rfl rfl rfl)<|ar rfl<|aw ?_
  refine aE rfl (λhc2=>?_) (λhc2=>?_)
  ·
   refine aD<|ar rfl<|ar rfl<|ar rfl<|aw ?_
   refine WC.ret (dn Tryz.results71 rfl rfl rfl ?_)
   rw[if_pos ao] at hk;exact hk
  ·
   refine aD<|af rfl<|af rfl<|ab rfl (cg (ts:=#[]) (ty:=0) rfl rfl Tryz.underlying9) ?_
   refine af rfl<|ab rfl (Rd.sub rfl rfl rfl ao) ?_
   refine ab rfl (Rd.gtr rfl rfl rfl)<|ar rfl<|aw<|aE rfl (λhc3=>?_) (λhc3=>?_)
   ·
    refine aD<|ar rfl<|ar rfl<|ar rfl<|aw ?_
    refine WC.ret (dn Tryz.results71 rfl rfl rfl ?_)
    rw[if_neg ao,if_pos ao] at hk;exact hk
   ·
    refine ay<|aA<|aa<|aD<|af rfl<|af rfl<|af rfl<|af rfl<|ab rfl (Rd.add rfl rfl rfl ao) ?_
    refine ab rfl (vM (lo:=k) (hi:=k+n) rfl Tryz.underlying9 rfl rfl rfl ao ao ao ao) ?_
    refine af rfl<|af rfl<|ab rfl (Rd.add rfl rfl rfl ao) ?_
    refine ar rfl<|ar rfl<|ar rfl<|aw<|WC.ret (dn Tryz.results71 rfl rfl rfl ?_)
    rw[if_neg ao,if_neg ao] at hk;simpa using hk
end Go.Proofs.YtebpkhlifcffnaaGreatDoor
namespace Go.Proofs.YtebpkhlifcffnaaGreatDoor
open Go Go.SL
theorem EX(n:Nat): ∀k,num (n/256^k) (beb k n)=n
 |0=>by simp[num,beb]
 |k+1=>by
  have h:=EX n k
  have e:num (n/256^(k+1)) (beb (k+1) n)=num (256*(n/256^(k+1))+(UInt8.ofNat (n/256^k%256)).toNat) (beb k n):=rfl
  rw[e,kL (Nat.mod_lt _ ct),Nat.pow_succ,←Nat.div_div_eq_div_mul,Nat.div_add_mod,h]
theorem Kj: ∀k,k<=5-> ∀x,x<2^(7-k)->8-jN (255-(x+mask k))=k:=by decide +kernel
theorem uR{n:Nat}(hn:n<=1099511627776)(t:List UInt8):fF (cV n++t)=((n:Int),(more n:Int)+1,0):=by
 have h5:=sX hn
 have hh:=Fc hn
 have hms:=Ay _ h5
 have hb:(UInt8.ofNat (n/256^more n+mask (more n))).toNat=n/256^more n+mask (more n):=kL ao
 have hl:lead (UInt8.ofNat (n/256^more n+mask (more n)))=more n:=by rw[lead,hb];exact Kj _ h5 _ hh
 have htk:(beb (more n) n++t).take (more n)=beb (more n) n:=by
  rw[List.take_append_of_le_length (by rw[ko];exact Nat.le_refl _),List.take_of_length_le (by rw[ko];exact Nat.le_refl _)]
 have hnum:num ((UInt8.ofNat (n/256^more n+mask (more n))).toNat-mask (more n)) ((beb (more n) n++t).take (more n))=n:=by
  rw[hb,htk,Nat.add_sub_cancel,EX]
 rw[cV,List.cons_append,fF,hl,if_neg ao,if_neg (by rw[List.length_append,ko];omega),hnum,if_neg ao]
theorem gA{a:Nat}(ha:a<=1099511627776):vV (a:Int)=cV a:=by
 rw[vV,if_neg ao,Int.toNat_natCast]
theorem vI{n:Nat}(hn:n<=1099511627776):(cV n).length<=6:=by
 have:=sX hn
 rw[c5];omega
end Go.Proofs.YtebpkhlifcffnaaGreatDoor
namespace Go.Proofs.YtebpkhlifcffnaaGreatDoor
open Go Go.SL
theorem EN: ∀(r:List UInt8) (h:Nat),beb r.length (num h r)=r/\num h r/256^r.length=h
 | [],h=>by simp[beb,num]
 |c::r,h=>by
  obtain⟨h1,h2⟩:=EN r (256*h+c.toNat)
  have hc:=UInt8.toNat_lt c
  have e:num h (c::r)=num (256*h+c.toNat) r:=rfl
  rw[e,List.length_cons]
  refine⟨?_,?_⟩
  ·rw[beb,h1,h2]
   congr 1
   apply UInt8.toNat_inj.1
   rw[kL (Nat.mod_lt _ ct)];omega
  ·rw[Nat.pow_succ,←Nat.div_div_eq_div_mul,h2];omega
theorem HF: ∀{s:List UInt8},(fF s).2.2=0-> ∃n:Nat,n<=1099511627776/\(fF s).1=(n:Int)/\(fF s).2.1=(more n:Int)+1/\s=cV n++s.drop (more n+1)
 | [],h=>by simp[fF] at h
 |b::r,h=>by
  rw[fF] at h⊢
  by_cases h1:5<lead b
  ·rw[if_pos h1] at h;simp at h
  ·rw[if_neg h1] at h⊢
   by_cases h2:r.length<lead b
   ·rw[if_pos h2] at h;simp at h
   ·rw[if_neg h2] at h⊢
    split at h
    ·simp at h
    ·next h3=>
     rw[if_neg h3]
     obtain⟨ha1,ha2,ha3⟩:=zF (b:=b) ao
     obtain⟨e1,e2⟩:=EN (r.take (lead b)) (b.toNat-mask (lead b))
     rw[List.length_take,Nat.min_eq_left ao] at e1 e2
     have hm:more (num (b.toNat-mask (lead b)) (r.take (lead b)))=lead b:=by omega
     refine⟨_,by omega,rfl,by rw[hm],?_⟩
     rw[cV,hm,e1,e2,Nat.sub_add_cancel ha2,List.drop_succ_cons,List.cons_append,List.take_append_drop]
     congr 1
     apply UInt8.toNat_inj.1
     rw[kL (UInt8.toNat_lt b)]
theorem vF{s:List UInt8}(h:(dt s).2.2=0): ∃rest,s=cV (dt s).1.length++((dt s).1++rest)/\(dt s).1.length<=262144/\(dt s).2.1=((cV (dt s).1.length).length+(dt s).1.length:Nat)/\s.drop (dt s).2.1.toNat=rest:=by
 by_cases h1:(fF s).2.2≠0
 ·rw[dt,if_pos h1] at h;exact absurd h h1
 ·obtain⟨n,hn,g1,g2,hs⟩:=HF (Decidable.not_not.1 h1)
  have hl:=congrArg List.length hs
  rw[List.length_append,c5] at hl
  have hle:(s.drop (more n+1)).length=s.length-(more n+1):=List.length_drop
  rw[dt,if_neg h1,g1,g2] at h⊢
  by_cases h2:(262144:Int)<n
  ·rw[if_pos h2] at h;simp at h
  ·rw[if_neg h2] at h⊢
   by_cases h3:(s.length:Int)-((more n:Int)+1)<n
   ·rw[if_pos h3] at h;simp at h
   ·rw[if_neg h3]
    have e1:((more n:Int)+1).toNat=more n+1:=by omega
    simp only[e1,Int.toNat_natCast]
    have e2:(s.take (more n+1+n)).drop (more n+1)=(s.drop (more n+1)).take n:=by rw[List.drop_take];congr 1;omega
    have e3:((s.take (more n+1+n)).drop (more n+1)).length=n:=by rw[e2,List.length_take,List.length_drop];omega
    rw[e3,e2]
    refine⟨(s.drop (more n+1)).drop n,?_,by omega,by rw[c5];omega,?_⟩
    ·rw[List.take_append_drop];exact hs
    ·rw[List.drop_drop];congr 1
theorem j8{t:List UInt8}(ht:t.length<=262144)(rest:List UInt8):dt (cV t.length++(t++rest))=(t,(((cV t.length).length+t.length:Nat):Int),0):=by
 have hg:=uR (n:=t.length) ao (t++rest)
 have e1:((more t.length:Int)+1).toNat=(cV t.length).length:=by rw[c5];omega
 rw[dt,hg]
 simp only[ne_eq,not_true_eq_false,if_false]
 rw[if_neg ao,if_neg (by rw[List.length_append,List.length_append,c5];omega),e1,Int.toNat_natCast]
 refine Prod.ext ?_ (Prod.ext ?_ rfl)
 ·show((cV t.length++(t++rest)).take ((cV t.length).length+t.length)).drop (cV t.length).length=t
  rw[List.take_length_add_append,List.drop_left,List.take_left]
 ·show(more t.length:Int)+1+(t.length:Int)=(((cV t.length).length+t.length:Nat):Int)
  rw[c5];omega
def HT(r:List UInt8):Prop:=r=[]∨(dt r).2.2≠0
def Small(l:List (List UInt8)):Prop:= ∀t∈l,t.length<=262144
theorem gy{t:List UInt8}(ht:t.length<=262144):vV (t.length:Int)=cV t.length:=gA ao
theorem ec(t:List UInt8)(l:List (List UInt8)):bD (t::l)=vV t.length++t++bD l:=by simp[bD]
theorem yC(n:Nat)(r:List UInt8):cV n++r≠ []:=by simp[cV]
theorem xL: ∀{l l':List (List UInt8)} {p r:List UInt8},Small l->Small l'->HT p->HT r->bD l++p=bD l'++r->l=l'/\p=r
 | [],[],p,r,_,_,_,_,h=>⟨rfl,by simpa [bD] using h⟩
 |t::l,[],p,r,hl,_,_,hr,h=>by
  have ht:=hl t (by simp)
  have e:bD ([]:List (List UInt8))++r=r:=rfl
  rw[e,ec,gy ht,List.append_assoc,List.append_assoc] at h
  subst h
  rcases hr with h1|h1
  ·exact absurd h1 (yC _ _)
  ·rw[j8 ht] at h1;exact absurd rfl h1
 | [],t::l,p,r,_,hl,hp,_,h=>by
   have ht:=hl t (by simp)
   have e:bD ([]:List (List UInt8))++p=p:=rfl
   rw[e,ec,gy ht,List.append_assoc,List.append_assoc] at h
   subst h
   rcases hp with h1|h1
   ·exact absurd h1 (yC _ _)
   ·rw[j8 ht] at h1;exact absurd rfl h1
 |t::l,u::m,p,r,hl,hm,hp,hr,h=>by
  have ht:=hl t (by simp)
  have hu:=hm u (by simp)
  rw[ec,ec,gy ht,gy hu,List.append_assoc,List.append_assoc,List.append_assoc,List.append_assoc] at h
  have h1:=j8 ht (bD l++p)
  rw[h,j8 hu] at h1
  obtain rfl:u=t:=congrArg Prod.fst h1
  have h2:=List.append_cancel_left (List.append_cancel_left h)
  obtain⟨rfl,rfl⟩:=xL (λx hx=>hl x (by simp[hx])) (λx hx=>hm x (by simp[hx])) hp hr h2
  exact⟨rfl,rfl⟩
inductive sa(s:List UInt8):List (List UInt8)->List UInt8->Prop
 |nil:sa s [] s
 |snoc {l:List (List UInt8)} {r:List UInt8} (h:sa s l r) (ho:(dt r).2.2=0):sa s (l++[(dt r).1]) (r.drop (dt r).2.1.toNat)
theorem sa.join{s:List UInt8}{l:List (List UInt8)}{r:List UInt8}(h:sa s l r):s=bD l++r/\Small l/\l.length+r.length<=s.length:=by
 induction h with
 |nil=>exact⟨rfl,λt ht=>by simp at ht,by simp⟩
 | @snoc l r h ho ih=>
   obtain⟨e,hs,hn⟩:=ih
   obtain⟨rest,h1,h2,h3,h4⟩:=vF ho
   rw[h4]
   refine⟨?_,?_,?_⟩
   ·rw[e,bD,bD,List.flatMap_append,List.append_assoc]
    congr 1
    rw[List.flatMap_cons,List.flatMap_nil,gy h2,List.append_nil,List.append_assoc]
    exact h1
   ·intro t ht
    rcases List.mem_append.1 ht with ht|ht
    ·exact hs t ht
    ·simp only[List.mem_singleton] at ht;subst ht;exact h2
   ·have:=congrArg List.length h1
    rw[List.length_append,List.length_append,c5] at this
    simp only[List.length_append,List.length_cons,List.length_nil];omega
set_option maxRecDepth 20000 in
set_option maxHeartbeats 1000000 in
theorem CU{R:List RO}{O:List Own}{POST:Value->List RO->List Own->Prop}{s:List UInt8}(hs:s.length<=8000000000000)
 (hk: ∀v e out l r,sa s l r->(e=0/\r=[]/\out=l∨e=(dt r).2.2/\e≠0/\r≠ []/\out=[])->POST (.tuple #[v,.int .i64 e]) (SlE (SL.one vs) v out::R) O):Fun Tryz.prog 129 #[vs s] R O POST:=by
 refine aC (l:=[_]) Tryz.func129 rfl Tryz.ntmps129 rfl (L0:=[(0,_)]) rfl ?_
 refine aD<|ar rfl<|ar rfl<|a7<|ar rfl<|aw ?_
 refine aF<|WC.block ?_
 refine WC.pick [4,0] eS ?_
 refine WC.rR 2 (λ(r:List UInt8) (l:List (List UInt8)) (v:Value)=>[(4,v),(0,vs r)]) (λ(r:List UInt8) (l:List (List UInt8)) (v:Value)=>bt 9 1 (SL.one vs) v l::O) (λ(r:List UInt8) (l:List (List UInt8)) (v:Value)=>sa s l r/\bL v) (λ(r:List UInt8) (l:List (List UInt8)) (v:Value)=>r.length) (s) ([]) (.slice none 0 0) iw ?hinv1 cC (λw h=>h.dH (α:=List UInt8) (e:=9) (size:=1) (enc:=SL.one vs)) ?_
 case hinv1=>
  exact⟨.nil,bL.sl⟩
 intro r l v
 rintro⟨h1,h2⟩
 obtain⟨hj,hsm,hln⟩:=h1.join
 refine bd<|af rfl<|ab rfl (fA rfl rfl rfl)<|aw ?_
 refine aE rfl (λhc1=>?_) (λhc1=>?_)
 ·
  refine ay<|aa<|WC.block ?_
  refine aD<|af rfl ?_
  refine aq rfl<|aj rfl rfl aZ an rfl rfl rfl ?_
  refine rF ao ?_
  refine af rfl<|bH rfl<|bH rfl<|bH rfl<|ar rfl<|ar rfl<|ar rfl<|aw<|bd<|af rfl<|ab rfl (Rd.neq rfl rfl rfl)<|aw<|aE rfl (λhc2=>?_) (λhc2=>?_)
  ·
   refine aD<|af rfl<|ar rfl<|ar rfl<|aw ?_
   refine WC.heap (R':=SlE (SL.one vs) (.slice none 0 0) ([]:List (List UInt8))::R) (O':=O) (λw h=>(Sat.tj h).drop) ?_
   refine WC.ret (Ret.two Tryz.results129 rfl rfl ?_)
   exact hk _ _ _ l r h1 (.inr ⟨rfl,hc2,hc1,rfl⟩)
  ·
   obtain⟨rest,e1,e2,e3,e4⟩:=vF (s:=r) (Decidable.not_not.1 hc2)
   have e5:=congrArg List.length e1
   rw[List.length_append,List.length_append,c5] at e5
   refine ay<|aa<|WC.drawn (O) 9 rfl mixed ?_
   refine ae 0 rfl an aN rfl rfl rfl (al rfl rfl) ?_
   refine ae 1 rfl an aN rfl rfl rfl (al rfl rfl) ?_
   refine ae 4 rfl an aN rfl rfl rfl (al rfl rfl) ?_
   refine ae 5 rfl an aN rfl rfl rfl (al rfl rfl) ?_
   refine ae 6 rfl an aN rfl rfl rfl (gh (lo:=(dt r).2.1.toNat) rfl Tryz.underlying9 rfl rfl ao (by rw[e3,c5];omega)) ?_
   refine aS 2 rfl an rfl ?_
   refine aX (ps:=[(0,_)]) rfl S37 aZ rfl rfl fy an rfl rfl rfl ?_;intro b21
   refine⟨aN,?_⟩
   refine aS 3 rfl an rfl ?_
   refine bR (enc:=SL.one vs) rfl S37 rfl rfl bh bh [(dt r).1] rfl (by rfl) rfl ie ie (by exact⟨by simp only[maxLen,List.length_append,List.length_nil,List.length_cons,List.length_drop,List.length_take,List.length_map];omega,by omega⟩) rfl rfl ?_;intro v22 hv22
   refine⟨aN,?_⟩
   refine ae 7 rfl an aN rfl rfl rfl (Rd.assign rfl rfl) ?_
   refine ae 8 rfl an aN rfl rfl rfl (Rd.assign rfl rfl) ?_
   refine WD.done an ?_
   exact aA<|dN.mk (r.drop (dt r).2.1.toNat) (l++[(dt r).1]) v22 ⟨h1.snoc (Decidable.not_not.1 hc2),hv22⟩ (by rw[e4];omega) cC bN
 ·
  refine WC.exit<|au.exit<|dN.exit<|aH.exit<|aa<|aD<|af rfl<|ar rfl<|ar rfl<|aw ?_
  refine WC.heap (λw h=>h.eE bh) ?_
  refine WC.ret (Ret.two Tryz.results129 rfl rfl ?_)
  obtain rfl:r=[]:=Decidable.not_not.1 hc1
  exact hk _ _ _ l [] h1 (.inl ⟨rfl,rfl,rfl⟩)
theorem Small.take{l:List (List UInt8)}(h:Small l)(n:Nat):Small (l.take n):=λt ht=>h t (List.mem_of_mem_take ht)
end Go.Proofs.YtebpkhlifcffnaaGreatDoor
namespace Go.Proofs.YtebpkhlifcffnaaGreatDoor
open Go Go.SL
def le4(n:Nat):List UInt8:=[UInt8.ofNat (n%256),UInt8.ofNat (n/256%256),UInt8.ofNat (n/65536%256),UInt8.ofNat (n/16777216%256)]
theorem je(b:List UInt8):bD [b]=vV b.length++b:=by simp[bD]
def bare(k:UInt8)(b:List UInt8):List UInt8:=k::(vV b.length++b)
def eQ(k:UInt8)(b:List UInt8):List UInt8:=if 262144<b.length then [] else bare k b++le4 (dx (bare k b))
theorem si{k:UInt8}{b:List UInt8}(h:b.length<=262144):(bare k b).length=(cV b.length).length+b.length+1:=by
 rw[bare,List.length_cons,List.length_append,gy h]
set_option maxRecDepth 20000 in
set_option maxHeartbeats 1000000 in
theorem xK{R:List RO}{O:List Own}{POST:Value->List RO->List Own->Prop}{s:List UInt8}(ht:ea∈R)(hs:s.length<=9223372036854775807)
 (hk:POST (vs (le4 (dx s))) R O):Fun Tryz.prog 68 #[vs s] R O POST:=by
 refine aC (l:=[_]) Tryz.func68 rfl Tryz.ntmps68 rfl (L0:=[(0,_)]) rfl ?_
 refine aD<|ar rfl<|a7<|af rfl ?_
 refine aq rfl<|aj rfl rfl aZ an rfl rfl rfl ?_
 refine lk ht hs ?_
 refine ar rfl<|a7<|af rfl<|ab rfl (by exact cX rfl rfl Tryz.underlying5 (hS:=Tryz.underlying194)) ?_
 refine aU 7 (u:=vy (UInt8.ofNat (dx s%256))) rfl (by rw[ib]) ?_
 refine af rfl<|ab rfl (cu (a:=dx s) (n:=8) rfl rfl rfl rfl rfl ct) ?_
 refine ab rfl (by exact cX rfl rfl Tryz.underlying5 (hS:=Tryz.underlying194)) ?_
 refine aU 10 (u:=vy (UInt8.ofNat (dx s/256%256))) rfl (by rw[ib]) ?_
 refine af rfl<|ab rfl (cu (a:=dx s) (n:=16) rfl rfl rfl rfl rfl ct) ?_
 refine ab rfl (by exact cX rfl rfl Tryz.underlying5 (hS:=Tryz.underlying194)) ?_
 refine aU 13 (u:=vy (UInt8.ofNat (dx s/65536%256))) rfl (by rw[ib]) ?_
 refine af rfl<|ab rfl (cu (a:=dx s) (n:=24) rfl rfl rfl rfl rfl ct) ?_
 refine ab rfl (by exact cX rfl rfl Tryz.underlying5 (hS:=Tryz.underlying194)) ?_
 refine aU 16 (u:=vy (UInt8.ofNat (dx s/16777216%256))) rfl (by rw[ib]) ?_
 refine aq rfl<|aX (ps:=[(0,_),(1,_),(2,_),(3,_)]) rfl S41 aZ rfl rfl fy an rfl rfl rfl ?_;intro b17
 refine ab rfl (bY (bs:=le4 (dx s)) rfl Tryz.underlying41 Tryz.underlying9 Tryz.underlying5 rfl aK rfl rfl ao) ?_
 refine ar rfl<|aw<|WC.heap (R':=R) (O':=O) bN ?_
 refine WC.ret (Ret.one Tryz.results68 rfl ?_)
 exact hk
set_option maxRecDepth 20000 in
set_option maxHeartbeats 1000000 in
theorem pB{R:List RO}{O:List Own}{POST:Value->List RO->List Own->Prop}{k:UInt8}{b:List UInt8}(ht:ea∈R)
 (hk:POST (vs (eQ k b)) R O):Fun Tryz.prog 30 #[vy k,vs b] R O POST:=by
 unfold eQ at hk
 refine aC (l:=[_,_]) Tryz.func30 rfl Tryz.ntmps30 rfl (L0:=[(0,_),(1,_)]) rfl ?_
 refine aD<|ar rfl<|aw<|bd<|af rfl<|ab rfl (cg (ts:=#[]) (ty:=0) rfl rfl Tryz.underlying9) ?_
 refine ab rfl (Rd.gtr rfl rfl rfl)<|aw<|aE rfl (λhc1=>?_) (λhc1=>?_)
 ·
  refine aD<|ar rfl<|aw ?_
  refine WC.ret (Ret.one Tryz.results30 rfl ?_)
  rw[if_pos ao] at hk;exact hk
 ·
  rw[if_neg ao] at hk
  have hp:=vI (n:=b.length) ao
  have hj:=congrArg List.length (je b)
  rw[List.length_append,gy ao] at hj
  have hbl:=si (k:=k) (b:=b) ao
  have hll:(le4 (dx (bare k b))).length=4:=rfl
  refine ay<|aa<|WC.pick [0,1] eS ?_
  refine WC.val 5 (vs (bare k b)) ?_ ?_
  ·
   refine WC.drawn (O) 8 rfl mixed ?_
   refine ae 0 rfl an aN rfl rfl rfl (al rfl rfl) ?_
   refine ae 3 rfl an aN rfl rfl rfl (al rfl rfl) ?_
   refine WD.two 1 4 rfl rfl an rfl rfl ?_ ?_
   ·
    refine aX (ps:=[(0,_)]) rfl S41 aZ rfl rfl fy an rfl rfl rfl ?_;intro b10
    refine⟨aN,?_⟩
    refine WD.two 2 4 rfl rfl an rfl rfl ?_ ?_
    ·
     refine OpW.rd rfl rfl (bY (bs:=[k]) rfl Tryz.underlying41 Tryz.underlying9 Tryz.underlying5 rfl aK rfl rfl ao) ?_
     refine⟨aN,?_⟩
     refine aS 4 rfl an rfl ?_
     refine aX (ps:=[(0,_)]) rfl S37 aZ rfl rfl fy an rfl rfl rfl ?_;intro b13
     refine⟨aN,?_⟩
     refine WD.heap (λw h=>h.gC (m:=1) (enc:=SL.one vs) (xs:=[b]) bh rfl rfl ao) ?_
     refine aS 5 rfl an rfl ?_
     refine aj rfl rfl aZ an rfl rfl rfl ?_
     refine eo (l:=[b]) aK ao ?_
     refine⟨aN,?_⟩
     refine ae 6 rfl an aN rfl rfl rfl (cA rfl rfl rfl (by rw[List.length_singleton];omega)) ?_
     refine ae 7 rfl an aN rfl rfl rfl (Rd.assign rfl rfl) ?_
     refine WD.done an ?_
     exact⟨by repeat(first|exact Sub.nil|refine Sub.cons rfl (by first|rfl|((rw[je];rfl))) ?_),by exact bN⟩
    ·
     refine aX (ps:=[(0,_)]) rfl S37 aZ rfl rfl fy an rfl rfl rfl ?_;intro b13
     refine⟨aN,?_⟩
     refine WD.heap (λw h=>h.gC (m:=1) (enc:=SL.one vs) (xs:=[b]) bh rfl rfl ao) ?_
     refine WD.two 2 5 rfl rfl an rfl rfl ?_ ?_
     ·
      refine OpW.rd rfl rfl (bY (bs:=[k]) rfl Tryz.underlying41 Tryz.underlying9 Tryz.underlying5 rfl aK rfl rfl ao) ?_
      refine⟨aN,?_⟩
      refine aS 5 rfl an rfl ?_
      refine aj rfl rfl aZ an rfl rfl rfl ?_
      refine eo (l:=[b]) aK ao ?_
      refine⟨aN,?_⟩
      refine ae 6 rfl an aN rfl rfl rfl (cA rfl rfl rfl (by rw[List.length_singleton];omega)) ?_
      refine ae 7 rfl an aN rfl rfl rfl (Rd.assign rfl rfl) ?_
      refine WD.done an ?_
      exact⟨by repeat(first|exact Sub.nil|refine Sub.cons rfl (by first|rfl|((rw[je];rfl))) ?_),by exact bN⟩
     ·
      refine aj rfl rfl aZ an rfl rfl rfl ?_
      refine eo (l:=[b]) aK ao ?_
      refine⟨aN,?_⟩
      refine aS 2 rfl an rfl ?_
      refine OpW.rd rfl rfl (bY (bs:=[k]) rfl Tryz.underlying41 Tryz.underlying9 Tryz.underlying5 rfl aK rfl rfl ao) ?_
      refine⟨aN,?_⟩
      refine ae 6 rfl an aN rfl rfl rfl (cA rfl rfl rfl (by rw[List.length_singleton];omega)) ?_
      refine ae 7 rfl an aN rfl rfl rfl (Rd.assign rfl rfl) ?_
      refine WD.done an ?_
      exact⟨by repeat(first|exact Sub.nil|refine Sub.cons rfl (by first|rfl|((rw[je];rfl))) ?_),by exact bN⟩
   ·
    refine aX (ps:=[(0,_)]) rfl S37 aZ rfl rfl fy an rfl rfl rfl ?_;intro b13
    refine⟨aN,?_⟩
    refine WD.heap (λw h=>h.gC (m:=1) (enc:=SL.one vs) (xs:=[b]) bh rfl rfl ao) ?_
    refine WD.two 1 5 rfl rfl an rfl rfl ?_ ?_
    ·
     refine aX (ps:=[(0,_)]) rfl S41 aZ rfl rfl fy an rfl rfl rfl ?_;intro b10
     refine⟨aN,?_⟩
     refine WD.two 2 5 rfl rfl an rfl rfl ?_ ?_
     ·
      refine OpW.rd rfl rfl (bY (bs:=[k]) rfl Tryz.underlying41 Tryz.underlying9 Tryz.underlying5 rfl aK rfl rfl ao) ?_
      refine⟨aN,?_⟩
      refine aS 5 rfl an rfl ?_
      refine aj rfl rfl aZ an rfl rfl rfl ?_
      refine eo (l:=[b]) aK ao ?_
      refine⟨aN,?_⟩
      refine ae 6 rfl an aN rfl rfl rfl (cA rfl rfl rfl (by rw[List.length_singleton];omega)) ?_
      refine ae 7 rfl an aN rfl rfl rfl (Rd.assign rfl rfl) ?_
      refine WD.done an ?_
      exact⟨by repeat(first|exact Sub.nil|refine Sub.cons rfl (by first|rfl|((rw[je];rfl))) ?_),by exact bN⟩
     ·
      refine aj rfl rfl aZ an rfl rfl rfl ?_
      refine eo (l:=[b]) aK ao ?_
      refine⟨aN,?_⟩
      refine aS 2 rfl an rfl ?_
      refine OpW.rd rfl rfl (bY (bs:=[k]) rfl Tryz.underlying41 Tryz.underlying9 Tryz.underlying5 rfl aK rfl rfl ao) ?_
      refine⟨aN,?_⟩
      refine ae 6 rfl an aN rfl rfl rfl (cA rfl rfl rfl (by rw[List.length_singleton];omega)) ?_
      refine ae 7 rfl an aN rfl rfl rfl (Rd.assign rfl rfl) ?_
      refine WD.done an ?_
      exact⟨by repeat(first|exact Sub.nil|refine Sub.cons rfl (by first|rfl|((rw[je];rfl))) ?_),by exact bN⟩
    ·
     refine aj rfl rfl aZ an rfl rfl rfl ?_
     refine eo (l:=[b]) aK ao ?_
     refine⟨aN,?_⟩
     refine aS 1 rfl an rfl ?_
     refine aX (ps:=[(0,_)]) rfl S41 aZ rfl rfl fy an rfl rfl rfl ?_;intro b10
     refine⟨aN,?_⟩
     refine aS 2 rfl an rfl ?_
     refine OpW.rd rfl rfl (bY (bs:=[k]) rfl Tryz.underlying41 Tryz.underlying9 Tryz.underlying5 rfl aK rfl rfl ao) ?_
     refine⟨aN,?_⟩
     refine ae 6 rfl an aN rfl rfl rfl (cA rfl rfl rfl (by rw[List.length_singleton];omega)) ?_
     refine ae 7 rfl an aN rfl rfl rfl (Rd.assign rfl rfl) ?_
     refine WD.done an ?_
     exact⟨by repeat(first|exact Sub.nil|refine Sub.cons rfl (by first|rfl|((rw[je];rfl))) ?_),by exact bN⟩
  ·
   refine aD<|af rfl<|af rfl ?_
   refine aq rfl<|aj rfl rfl aZ an rfl rfl rfl ?_
   refine xK aK ao ?_
   refine ab rfl (cA rfl rfl rfl ao) ?_
   refine ar rfl<|aw<|WC.ret (Ret.one Tryz.results30 rfl ?_)
   exact hk
def sh:List UInt8->Nat×List UInt8×Int×Int
 | []=>(0,[],0,9)
 |k::s=>
  if(dt s).2.2≠0 then(0,[],0,(dt s).2.2)
  else if(s.length:Int)+1<(dt s).2.1+5 then(0,[],0,3)
  else if((k::s).take ((dt s).2.1.toNat+5)).drop ((dt s).2.1.toNat+1)≠le4 (dx ((k::s).take ((dt s).2.1.toNat+1))) then(0,[],0,5)
  else(k.toNat,(dt s).1,(dt s).2.1+5,0)
theorem Gt{s:List UInt8}(h:(dt s).2.2=0): ∃n:Nat,(dt s).2.1=n/\1<=n/\n<=s.length:=by
 obtain⟨rest,h1,h2,h3,h4⟩:=vF h
 refine⟨_,h3,by rw[c5];omega,?_⟩
 have:=congrArg List.length h1
 rw[List.length_append,List.length_append] at this
 omega
set_option maxRecDepth 20000 in
set_option maxHeartbeats 1000000 in
theorem yW{R:List RO}{O:List Own}{POST:Value->List RO->List Own->Prop}{s:List UInt8}(ht:ea∈R)(hs:s.length<=9223372036854775000)
 (hk:POST (.tuple #[.int .u8 (sh s).1,vs (sh s).2.1,.int .i64 (sh s).2.2.1,.int .i64 (sh s).2.2.2]) R O):Fun Tryz.prog 33 #[vs s] R O POST:=by
 refine aC (l:=[_]) Tryz.func33 rfl Tryz.ntmps33 rfl (L0:=[(0,_)]) rfl ?_
 refine aD<|ar rfl<|ar rfl<|ar rfl<|ar rfl<|aw<|bd<|af rfl<|ab rfl (lq rfl rfl rfl)<|aw ?_
 refine aE rfl (λhc1=>?_) (λhc1=>?_)
 ·
  obtain rfl:s=[]:=hc1
  refine aD<|ar rfl<|ar rfl<|ar rfl<|ar rfl<|aw ?_
  refine WC.ret (nZ Tryz.results33 rfl rfl rfl rfl ?_)
  exact hk
 ·
  obtain⟨k,s,rfl⟩: ∃b r,s=b::r:=by
   cases s with
   |nil=>exact absurd rfl hc1
   |cons b r=>exact⟨b,r,rfl⟩
  rw[List.length_cons] at hs
  have hcl:(k::s).length=s.length+1:=rfl
  refine ay<|aa<|aD<|af rfl<|ab rfl (gh (lo:=1) rfl Tryz.underlying9 rfl rfl rfl ao) ?_
  refine aq rfl<|aj rfl rfl aZ an rfl rfl rfl ?_
  refine rF (s:=s) ao ?_
  refine af rfl<|bH rfl<|bH rfl<|bH rfl<|ar rfl<|ar rfl<|ar rfl<|aw<|bd<|af rfl<|ab rfl (Rd.neq rfl rfl rfl)<|aw<|aE rfl (λhc2=>?_) (λhc2=>?_)
  ·
   refine aD<|af rfl<|ar rfl<|ar rfl<|ar rfl<|ar rfl<|aw ?_
   refine WC.ret (nZ Tryz.results33 rfl rfl rfl rfl ?_)
   rw[sh,if_pos hc2] at hk;exact hk
  ·
   obtain⟨n,hn,hn1,hn2⟩:=Gt (s:=s) (Decidable.not_not.1 hc2)
   rw[sh,if_neg hc2] at hk
   rw[hn] at hk⊢
   refine ay<|aa<|aD<|af rfl<|ab rfl (Rd.add rfl rfl rfl ao) ?_
   refine ar rfl<|aw<|aF<|WC.block ?_
   refine aD<|af rfl<|ab rfl (cg (ts:=#[]) (ty:=0) rfl rfl Tryz.underlying9) ?_
   refine af rfl<|ab rfl (Rd.add rfl rfl rfl ao) ?_
   refine ab rfl (Rd.lss rfl rfl rfl)<|ar rfl<|aw<|aE rfl (λhc3=>?_) (λhc3=>?_)
   ·
    refine aD<|ar rfl<|ar rfl<|ar rfl<|ar rfl<|aw ?_
    refine WC.ret (nZ Tryz.results33 rfl rfl rfl rfl ?_)
    rw[if_pos ao] at hk;exact hk
   ·
    rw[if_neg ao] at hk
    refine aF<|WC.mL 11 rfl mixed ?_
    refine ae 0 rfl an bw.all rfl rfl rfl (al rfl rfl) ?_
    refine ae 1 rfl an bw.all rfl rfl rfl (al rfl rfl) ?_
    refine ae 2 rfl an bw.all rfl rfl rfl (al rfl rfl) ?_
    refine ae 3 rfl an bw.all rfl rfl rfl (Rd.add rfl rfl rfl ao) ?_
    refine ae 4 rfl an bw.all rfl rfl rfl (vM (lo:=n+1) (hi:=n+5) rfl Tryz.underlying9 rfl rfl rfl ao ao ao ao) ?_
    refine ae 5 rfl an bw.all rfl rfl rfl (al rfl rfl) ?_
    refine ae 6 rfl an bw.all rfl rfl rfl (al rfl rfl) ?_
    refine ae 7 rfl an bw.all rfl rfl rfl (gi (hi:=n+1) rfl Tryz.underlying9 rfl rfl ao ao) ?_
    refine aS 8 rfl an rfl ?_
    refine aj rfl rfl aZ an rfl rfl rfl ?_
    refine xK (s:=(k::s).take (n+1)) ht (by rw[List.length_take];omega) ?_
    refine⟨aN,?_⟩
    refine ae 9 rfl an aN rfl rfl rfl (fA rfl rfl rfl) ?_
    refine ae 10 rfl an aN rfl rfl rfl (Rd.assign rfl rfl) ?_
    refine WD.done an ?_
    refine aa<|aE rfl (λhc4=>?_) (λhc4=>?_)
    ·
     refine aD<|ar rfl<|ar rfl<|ar rfl<|ar rfl<|aw ?_
     refine WC.ret (nZ Tryz.results33 rfl rfl rfl rfl ?_)
     rw[Int.toNat_natCast,if_pos hc4] at hk;exact hk
    ·
     rw[Int.toNat_natCast,if_neg hc4] at hk
     refine ay<|aA<|aa<|aD<|af rfl<|ab rfl (fb (k:=0) (b:=k) rfl Tryz.underlying9 rfl rfl rfl rfl) ?_
     refine af rfl<|af rfl<|ab rfl (Rd.add rfl rfl rfl ao) ?_
     refine aU 44 (u:=.int .i64 ((n:Int)+5)) rfl (by congr 1) ?_
     refine ar rfl<|ar rfl<|ar rfl<|ar rfl<|aw<|WC.ret (nZ Tryz.results33 rfl rfl rfl rfl ?_)
     exact hk
end Go.Proofs.YtebpkhlifcffnaaGreatDoor
namespace Go.Proofs.YtebpkhlifcffnaaGreatDoor
open Go Go.SL
section
variable{R:List RO}{O:List Own}{POST:Value->List RO->List Own->Prop}{b off:Nat}{e:TypeId}{cs:List Value}{p v:Value}{bs:List UInt8}
abbrev fu(b off:Nat):Value:=.pointer (some ⟨b,off,none⟩)
set_option maxRecDepth 20000 in
theorem M6(h0:cs[off]? =some (.pointer none))(hl:liesAt Tryz.prog Tryz.prog.depth e (cs.length/Tryz.prog.cellsOf e) off 141 1=true)(hk:POST (.tuple #[]) R (az b e (cs.set off (fu b off))::O)):
 Fun Tryz.prog 128 #[fu b off] R (az b e cs::O) POST:=by
 have hlt:=(List.getElem?_eq_some_iff.1 h0).1
 refine aC (l:=[_]) Tryz.func128 rfl Tryz.ntmps128 rfl (L0:=[(0,_)]) rfl ?_
 refine aD<|af rfl<|ab rfl (aL rfl rfl)<|ab rfl (ak (off:=off) (r:=off) rfl nN rfl rfl) ?_
 refine ab rfl (ax (off:=off) rfl F9 rfl List.mem_cons_self h0) ?_
 refine ab rfl (xS rfl Tryz.underlying139 rfl rfl)<|aw<|WC.cond rfl (λhc1=>?_) (λhc1=>?_)
 ·
  refine aB<|af rfl<|af rfl<|ab rfl (sw (off:=off) rfl Tryz.underlying139 Tryz.underlying276 wa ct rfl List.mem_cons_self hlt) ?_
  refine aq rfl<|OpW.rd rfl rfl (xT (ef:=Extern.AbiNoEscape.same) rfl rfl aZ Tryz.func183 rfl rfl an an (λw=>Lib.run_noEscape w _)) ?_
  refine ab rfl (sx (off:=off) rfl Tryz.underlying276 Tryz.underlying139 wa rfl List.mem_cons_self hl) ?_
  refine ab rfl (aL rfl rfl)<|ab rfl (ak (off:=off) (r:=off) rfl nN rfl rfl) ?_
  refine aq rfl<|aV (off:=off) rfl Rh rfl rfl (by exact⟨rfl,rfl⟩) (Take.head _) hlt rfl ?_
  refine aG<|Ret.normal (Ret.zero Tryz.results128 ?_)
  exact hk
 ·
  simp at hc1
set_option maxRecDepth 20000 in
theorem J1(h0:cs[off]? =some (fu b off))(hk:POST (.tuple #[]) R (az b e (cs.set off (fu b off))::O)):
 Fun Tryz.prog 128 #[fu b off] R (az b e cs::O) POST:=by
 have hlt:=(List.getElem?_eq_some_iff.1 h0).1
 have hs:cs.set off (fu b off)=cs:=by
  apply List.ext_getElem?;intro i
  rw[List.getElem?_set]
  split
  ·rename_i h;subst h;rw[h0]
  ·rfl
 rw[hs] at hk
 refine aC (l:=[_]) Tryz.func128 rfl Tryz.ntmps128 rfl (L0:=[(0,_)]) rfl ?_
 refine aD<|af rfl<|ab rfl (aL rfl rfl)<|ab rfl (ak (off:=off) (r:=off) rfl nN rfl rfl) ?_
 refine ab rfl (ax (off:=off) rfl F9 rfl List.mem_cons_self h0) ?_
 refine ab rfl (ig rfl Tryz.underlying139 rfl rfl)<|aw<|WC.cond rfl (λhc1=>?_) (λhc1=>?_)
 ·
  simp at hc1
 ·
  refine aD<|af rfl<|ab rfl (aL rfl rfl)<|ab rfl (ak (off:=off) (r:=off) rfl nN rfl rfl) ?_
  refine ab rfl (ax (off:=off) rfl F9 rfl List.mem_cons_self h0) ?_
  refine af rfl<|ab rfl (qG rfl Tryz.underlying139 wa rfl rfl)<|aw<|WC.cond rfl (λhc2=>?_) (λhc2=>?_)
  ·
   simp at hc2
  ·
   refine ay<|Ret.normal (Ret.zero Tryz.results128 ?_)
   exact hk
theorem Ju(hp:p= .pointer none∨p=fu b off)(h0:cs[off]? =some p)(hl:liesAt Tryz.prog Tryz.prog.depth e (cs.length/Tryz.prog.cellsOf e) off 141 1=true)(hk:POST (.tuple #[]) R (az b e (cs.set off (fu b off))::O)):
 Fun Tryz.prog 128 #[fu b off] R (az b e cs::O) POST:=by
 rcases hp with rfl|rfl
 ·exact M6 h0 hl hk
 ·exact J1 h0 hk
set_option maxRecDepth 20000 in
theorem lV{s:List UInt8}(hp:p= .pointer none∨p=fu b off)(h0:cs[off]? =some p)(h1:cs[off+1]? =some v)(hl:liesAt Tryz.prog Tryz.prog.depth e (cs.length/Tryz.prog.cellsOf e) off 141 1=true)(hsz:bs.length+s.length<=140737488355328)
 (hk: ∀v',bL v'->POST (.tuple #[.int .i64 s.length,.nilIface]) R (az b e ((cs.set off (fu b off)).set (off+1) v')::bt 5 1 (SL.one vy) v' (bs++s)::O)):
 Fun Tryz.prog 69 #[fu b off,vs s] R (az b e cs::bt 5 1 (SL.one vy) v bs::O) POST:=by
 have hlt:=(List.getElem?_eq_some_iff.1 h1).1
 have h1':(cs.set off (fu b off))[off+1]? =some v:=by rw[List.getElem?_set_ne ao];exact h1
 refine aC (l:=[_,_]) Tryz.func69 rfl Tryz.ntmps69 rfl (L0:=[(0,_),(1,_)]) rfl ?_
 refine aD<|ar rfl<|ar rfl<|a7<|af rfl ?_
 refine aq rfl<|aj rfl rfl aZ an rfl rfl rfl ?_
 refine Ju hp h0 hl ?_
 refine a7<|af rfl<|af rfl<|ab rfl (aL rfl rfl)<|ab rfl (ak (off:=off) (r:=off+1) rfl nK rfl rfl) ?_
 refine ab rfl (ax (off:=off+1) rfl C41 rfl List.mem_cons_self h1') ?_
 refine af rfl<|aq rfl<|o4 rfl S41 Tryz.underlying9 rfl rfl bh (by exact⟨by simp only[maxLen,List.length_append,List.length_nil,List.length_cons,List.length_drop,List.length_take,List.length_map];omega,by omega⟩) rfl rfl ?_;intro v14 hv14
 refine ab rfl (aL rfl rfl)<|ab rfl (ak (off:=off) (r:=off+1) rfl nK rfl rfl) ?_
 refine aq rfl<|aV (off:=off+1) rfl Z41 rfl rfl hv14 bh (by rw[List.length_set];exact hlt) rfl ?_
 refine a7<|af rfl<|ab rfl (cg (ts:=#[]) (ty:=0) rfl rfl Tryz.underlying9) ?_
 refine ar rfl<|ar rfl<|aw<|WC.ret (Ret.two Tryz.results69 rfl rfl ?_)
 exact hk _ hv14
set_option maxRecDepth 20000 in
theorem om(h1:cs[off+1]? =some v)(hk:POST (vs bs) R (az b e cs::O)):
 Fun Tryz.prog 70 #[fu b off] R (az b e cs::bt 5 1 (SL.one vy) v bs::O) POST:=by
 refine aC (l:=[_]) Tryz.func70 rfl Tryz.ntmps70 rfl (L0:=[(0,_)]) rfl ?_
 refine aD<|ar rfl<|aw ?_
 refine aF<|WC.drawn (az b e cs::O) 12 rfl mixed ?_
 refine ae 0 rfl an aN rfl rfl rfl (al rfl rfl) ?_
 refine ae 1 rfl an aN rfl rfl rfl (aL rfl rfl) ?_
 refine ae 2 rfl an aN rfl rfl rfl (ak (off:=off) (r:=off+1) rfl nK rfl rfl) ?_
 refine ae 3 rfl an aN rfl rfl rfl (ax (off:=off+1) rfl C41 rfl List.mem_cons_self h1) ?_
 refine ae 5 rfl an aN rfl rfl rfl (al rfl rfl) ?_
 refine ae 6 rfl an aN rfl rfl rfl (aL rfl rfl) ?_
 refine ae 7 rfl an aN rfl rfl rfl (ak (off:=off) (r:=off+1) rfl nK rfl rfl) ?_
 refine ae 8 rfl an aN rfl rfl rfl (ax (off:=off+1) rfl C41 rfl List.mem_cons_self h1) ?_
 refine WD.two 4 9 rfl rfl an rfl rfl ?_ ?_
 ·
  refine OpW.oJ rfl Tryz.underlying220 rfl aK rfl rfl ?_;intro q7 hq7
  refine⟨aN,?_⟩
  refine aS 9 rfl an rfl ?_
  refine OpW.rd rfl rfl ((by exact fB rfl rfl Tryz.underlying41 aK)) ?_
  refine⟨aN,?_⟩
  refine aS 10 rfl an rfl ?_
  refine OpW.oe rfl Tryz.underlying220 an rfl rfl rfl rfl bh hq7 rfl rfl ?_
  refine⟨aN,?_⟩
  refine ae 11 rfl an aN rfl rfl rfl (Rd.assign rfl rfl) ?_
  refine WD.done an ?_
  refine aa<|WC.ret (Ret.one Tryz.results70 rfl ?_)
  exact hk
 ·
  refine OpW.rd rfl rfl ((by exact fB rfl rfl Tryz.underlying41 aK)) ?_
  refine⟨aN,?_⟩
  refine aS 4 rfl an rfl ?_
  refine OpW.oJ rfl Tryz.underlying220 rfl aK rfl rfl ?_;intro q7 hq7
  refine⟨aN,?_⟩
  refine aS 10 rfl an rfl ?_
  refine OpW.oe rfl Tryz.underlying220 an rfl rfl rfl rfl bh hq7 rfl rfl ?_
  refine⟨aN,?_⟩
  refine ae 11 rfl an aN rfl rfl rfl (Rd.assign rfl rfl) ?_
  refine WD.done an ?_
  refine aa<|WC.ret (Ret.one Tryz.results70 rfl ?_)
  exact hk
end
end Go.Proofs.YtebpkhlifcffnaaGreatDoor
namespace Go.SL
open Go
section
variable{P:Program}{n:Sz}{o:Oper}{L:Env}{R:List RO}{O O':List Own}{K:Env->List RO->List Own->Prop}{t t' e:TypeId}{x y:Operand}{v z:Value}{α:Type}{g:α->Value}{enc:α->List Value}{xs:List α}{size bytes:Nat}
theorem j0{k:Nat}{a:α}(ho:o.op= .store t x y)(hsz: ∀w,(sizeOf t).run P w= .ok 1 w)(hx:ev L x=some (.pointer (some (cj v k))))(hy:ev L y=some (g a))(h1:(g a).cells=#[g a])(h2:(g a).oneCell'=true)
 (hT:Take (bt e 1 (one g) v xs) O O') (hlt:k<xs.length) (hd:o.dst=none) (kk:K L R (bt e 1 (one g) v (xs.set k a)::O')):OpW P n o L R O K:=by
 intro ac w hf hs Q
 have hs':=hs.perm hT.perm
 have hp:(bt e 1 (one g) v xs).pred w:=hs'.see List.mem_cons_self
 have cQ:=lL hp (j:=k) (u:=g xs[k]) (by rw[dG,List.getElem?_map,List.getElem?_eq_getElem hlt];rfl)
 have hlt':=jB hp
 obtain⟨hl,hv⟩:=hp
 rcases hv with⟨rfl,h0⟩|⟨b,cap,cur,rfl,hb,hh,hnc,hcm,hcs,ht⟩
 ·omega
 simp only[cj,Nat.zero_add] at hx cQ
 have hfree:w.frozen? ⟨b,k,none⟩=false:=by
  simp only[World.frozen?,hh];simp
 have hr:(execOp ac.eval o).run P w= .ok .skip (w.setCell ⟨b,k,none⟩ (g a)):=by
  simp[execOp,ho,hf.ev hx,hf.ev hy,Instr.storeAt,Instr.sureAddr,storeVar,hsz,h1,storeCells,Addr.add,run_store _ _ _ _ _ h2,cQ,hfree]
 unfold Oper.wp
 rw[hr,Oper.upon_skip,hd]
 have hset:(w.setCell ⟨b,k,none⟩ (g a)).heap[b]? =some (.cells (cur.setIfInBounds k (g a)) e (0,0)):=by
  show(w.heap.modify b _)[b]? =_
  rw[Array.getElem?_modify,if_pos rfl,hh];rfl
 have hbl:b<w.heap.size:=hlt' b (by simp[Value.ownBlock])
 refine⟨_,_,_,kk,hf.none _,hs'.update _ ⟨rfl,rfl,rfl,by simp,λj hj hn=>heap_setCell_other w _ _ (g a) (by simpa [bt,Value.ownBlock,eq_comm] using hn)⟩ (by intro j hj;left;simpa [bt,Value.ownBlock] using hj) (by intro j hj;simp[bt,Value.ownBlock] at hj;subst hj;simpa using hbl) (by simp[bt,Value.ownBlock]) (λw'' ha _=>?_)⟩
 refine⟨by rw[dG,List.length_map,Nat.mul_one],.inr ⟨b,cap,cur.setIfInBounds k (g a),by rw[List.length_set],Nat.zero_le _,?_,by rw[List.length_set];exact hnc,hcm,by simpa using hcs,?_⟩⟩
 ·rw[ha.2.2.2.2 b (by simpa using hbl) (by simp[bt,Value.ownBlock])]
  exact hset
 ·rw[Nat.mul_one] at ht⊢
  rw[Array.toList_setIfInBounds,List.length_set,List.take_set,ht,dG,dG,List.map_set]
theorem Hf{kl:IntKind}{p:Int}{lo:Nat}{e':TypeId}{a:Operand}(ho:o.op= .slice t x (some a) none none)(hT:SlT P t e size bytes z)(hx:ev L x=some v)(ha:ev L a=some (.int kl p))(hp:p=(lo:Int))(hO:bt e' size enc v xs∈O)(h1:lo<=xs.length):Rd P o L R O (dW v size lo xs.length):=λρ w hρ _ hr=>by
 rcases(hr _ hO).2 with⟨rfl,h0⟩|⟨b,c,cur,rfl,_⟩
 ·have h:=lg (P:=P) (m:=0) (cp:=0) (ad:=none) (lo:=lo) (hi:=xs.length) hT (some (.int kl p)) none (iC hp h1) (λ_=>by rw[h0];rfl) w
  simp only[execOp,ho,hρ _ _ hx,hρ _ _ ha,Option.map_some,Option.map_none,Sem.run_bind,h,Result.andThen_ok,Sem.run_pure]
 ·have h:=lg (P:=P) (m:=xs.length) (cp:=c) (ad:=some ⟨b,0,none⟩) (lo:=lo) (hi:=xs.length) hT (some (.int kl p)) none (iC hp h1) (λ_=>rfl) w
  simp only[execOp,ho,hρ _ _ hx,hρ _ _ ha,Option.map_some,Option.map_none,Sem.run_bind,h,Result.andThen_ok,Sem.run_pure]
theorem Ce(b m cap size hi:Nat):dW (.slice (some ⟨b,0,none⟩) m cap) size 0 hi= .slice (some ⟨b,0,none⟩) hi cap:=by
 simp only[dW]
 split<;>simp[cr]
end
section maps
variable{κ β:Type} [DecidableEq κ] {P:Program}{n:Sz}{o:Oper}{L:Env}{R:List RO}{O O':List Own}{K:Env->List RO->List Own->Prop}{t t' kt et:TypeId}{z:Value}{x y:Operand}{kenc:κ->Value}{venc:β->Value}{m:aO κ β}{b:Nat}{k:κ}{kv:Value}
theorem OpW.delete(T:ku P t kt et z)(KT:gQ P kt kenc)(ho:o.op= .call {callee:=.builtin .delete,args:=#[x,y],argTypes:=#[t,t']})(hx:ev L x=some (.map (some b)))(hy:ev L y=some kv)(hT:Take (fl kenc venc b m) O O')(hk:kenc k=kv)(hd:o.dst=none)
 (c:K L R (fl kenc venc b (m.del k)::O')):OpW P n o L R O K:=by
 intro a w hf hs Q
 have hs':=hs.perm hT.perm
 have hp:iu kenc venc b m w:=hs'.see List.mem_cons_self
 unfold Oper.wp
 have hr:(execOp a.eval o).run P w= .ok (.value (.tuple #[])) {w with heap:=w.heap.setIfInBounds b (.map ((m.del k).l.map (ent kenc venc)).toArray (m.del k).clock)}:=by
  simp only[execOp,ho,resolve,invoke,builtin,Sem.run_bind,Sem.run_pure,hf.ev hx,hf.ev hy,←hk,List.map_toArray,List.map_cons,List.map_nil,C7 T KT hp,Result.andThen_ok]
 rw[hr,Oper.upon_value,hd]
 exact⟨_,_,_,c,hf.none _,pY hs' _ hp⟩
end maps
end Go.SL
namespace Go.SL
open Go
section
variable{P:Program}{n:Sz}{o:Oper}{L:Env}{R:List RO}{O O':List Own}{K:Env->List RO->List Own->Prop}{t t' e:TypeId}{x y:Operand}{z:Value}{bytes:Nat}
theorem OpW.DG{b off dLen dCap sLen sCap d:Nat}{a:Addr}{cur cs:List Value}(ho:o.op= .call {callee:=.builtin .copy,args:=#[x,y],argTypes:=#[t,t']})(hT:SlT P t e 1 bytes z)
 (hx:ev L x=some (.slice (some ⟨b,off,none⟩) dLen dCap)) (hy:ev L y=some (.slice (some a) sLen sCap)) (hO:Take (az b e cur) O O') (hcs:cs.length=Nat.min sLen dLen)
 (hsrc: ∀w,(∀p∈R,p w)->(∀c∈O,c.pred w)-> ∀j v,cs[j]? =some v->w.cell? (a.add j)=some v) (hfit:off+cs.length<=cur.length) (h1: ∀v∈cs,v.oneCell'=true) (hd:o.dst=some d) (hn:Nat.blt d n.n=true)
 (k:K ((d,.int .i64 cs.length)::L) R (az b e (cur.take off++cs++cur.drop (off+cs.length))::O')):OpW P n o L R O K:=by
 intro ac w hf hs Q
 have hs':=hs.perm hO.perm
 have hp:w.heap[b]? =some (.cells cur.toArray e (0,0)):=hs'.see List.mem_cons_self
 obtain⟨i,hi,_,hsize,_⟩:=hT.info
 have hrun:=run_copy_row (P:=P) w t t' o.type e b off dLen dCap a sLen sCap cur.toArray e cs hT.under (by rw[hi];simp[hsize]) hp hcs (hsrc w (λp hp=>hs.read hp) (λc hc=>hs.see hc)) (by simpa using hfit) h1
 have hr:(execOp ac.eval o).run P w= .ok (.value (goInt cs.length)) (w.setRow b (cur.take off++cs++cur.drop (off+cs.length)).toArray):=by
  simp only[execOp,ho,resolve,invoke,builtin,hf.ev hx,hf.ev hy,Sem.run_bind,Sem.run_pure,Result.andThen_ok,List.map_toArray,List.map_cons,List.map_nil,hrun]
 unfold Oper.wp
 rw[hr,Oper.upon_value,hd]
 have hb:b<w.heap.size:=(Array.getElem?_eq_some_iff.1 hp).1
 refine⟨_,_,_,k,hf.put hn _,hs'.update _ ⟨rfl,rfl,rfl,by simp,λj hj hne=>setRow_other w b j _ (λe'=>hne (by simp[az,e']))⟩ (λj hj=>.inl hj) (λj hj=>by simp only[az,List.mem_singleton] at hj;subst hj;simpa using hb) (by simp[az]) (λw'' ha _=>?_)⟩
 show w''.heap[b]? =_
 rw[ha.2.2.2.2 b (by simpa using hb) (by simp[az])]
 exact setRow_heap w b _ _ e _ hp
variable{ad:Option Addr}{m cp lo hi:Nat}{kl kh:IntKind}{p q:Int}{size:Nat}
theorem ij{a:Operand}(ho:o.op= .slice t x (some a) none none)(hT:SlT P t e size bytes z)(hx:ev L x=some (.slice ad m cp))(ha:ev L a=some (.int kl p))(hp:p=(lo:Int))(hn:ad=none->cp=0)(h1:lo<=m):Rd P o L R O (dW (.slice ad m cp) size lo m):=λρ w hρ _ _=>by
 have h:=lg (P:=P) (m:=m) (cp:=cp) (ad:=ad) (lo:=lo) (hi:=m) hT (some (.int kl p)) none (iC hp h1) (λ_=>rfl) w
 simp only[execOp,ho,hρ _ _ hx,hρ _ _ ha,Option.map_some,Option.map_none,Sem.run_bind,h,Result.andThen_ok,Sem.run_pure]
theorem rL{b:Operand}(ho:o.op= .slice t x none (some b) none)(hT:SlT P t e size bytes z)(hx:ev L x=some (.slice ad m cp))(hb:ev L b=some (.int kh q))(hq:q=(hi:Int))(hn:ad=none->cp=0)(h2:hi<=cp):Rd P o L R O (dW (.slice ad m cp) size 0 hi):=λρ w hρ _ _=>by
 have h:=lg (P:=P) (m:=m) (cp:=cp) (ad:=ad) (lo:=0) (hi:=hi) hT none (some (.int kh q)) (λ_=>rfl) (iC hq h2) w
 simp only[execOp,ho,hρ _ _ hx,hρ _ _ hb,Option.map_some,Option.map_none,Sem.run_bind,h,Result.andThen_ok,Sem.run_pure]
end
end Go.SL
namespace Go.Proofs
open Go.Shelf
def Hg:Go.Shelf.Ren:=⟨λ|213=>138|265=>189|n=>n,λ|9=>9|3=>3|n=>n,λ|n=>n⟩
def rM:Go.Shelf.Ren:=⟨λ|106=>83|213=>138|265=>189|n=>n,λ|9=>9|3=>3|n=>n,λ|n=>n⟩
theorem zj:Go.Proofs.Lays.n106 Tryz.prog rM:={
 mixed:=by kernel_rfl
 f106:=Tryz.func83.trans (congrArg some (by kernel_rfl))
 f213:=Tryz.func138.trans (congrArg some (by kernel_rfl))
 f265:=Tryz.func189.trans (congrArg some (by kernel_rfl))
 t3:=Tryz.underlying3
 a3:=Tryz.isAgg3
 z3:=Tryz.sizeOf3
 v3:=Tryz.zeroValue3
 t9:=Tryz.underlying9
 a9:=Tryz.isAgg9
 z9:=Tryz.sizeOf9
 v9:=Tryz.zeroValue9}
open Go.RowKit in
theorem Tryz.strings_Compare(a b:ByteArray)(w:World):
 Calls Tryz.prog 83 #[.string a,.string b] w λe w'=>e= .returned (.int .i64 (Lib.compareBytes a.data.toList b.data.toList))/\w'=w:=Any.strings_Compare zj a b w
def Hh:Go.Shelf.Ren:=⟨λ|219=>219|217=>228|225=>276|224=>277|267=>278|266=>283|314=>310|n=>n,λ|9=>9|3=>3|4=>4|5=>5|46=>71|146=>195|51=>194|n=>n,λ|1=>1|n=>n⟩
def rN:Go.Shelf.Ren:=⟨λ|143=>161|219=>219|217=>228|225=>276|224=>277|267=>278|266=>283|314=>310|n=>n,λ|9=>9|3=>3|4=>4|5=>5|46=>71|146=>195|51=>194|n=>n,λ|1=>1|n=>n⟩
theorem zk:Go.Proofs.Lays.n143 Tryz.prog rN:={
 mixed:=by kernel_rfl
 f143:=Tryz.func161.trans (congrArg some (by kernel_rfl))
 f217:=Tryz.func228.trans (congrArg some (by kernel_rfl))
 f219:=Tryz.func219.trans (congrArg some (by kernel_rfl))
 f224:=Tryz.func277.trans (congrArg some (by kernel_rfl))
 f225:=Tryz.func276.trans (congrArg some (by kernel_rfl))
 f266:=Tryz.func283.trans (congrArg some (by kernel_rfl))
 f267:=Tryz.func278.trans (congrArg some (by kernel_rfl))
 f314:=Tryz.func310.trans (congrArg some (by kernel_rfl))
 t3:=Tryz.underlying3
 a3:=Tryz.isAgg3
 z3:=Tryz.sizeOf3
 v3:=Tryz.zeroValue3
 t4:=Tryz.underlying4
 a4:=Tryz.isAgg4
 z4:=Tryz.sizeOf4
 v4:=Tryz.zeroValue4
 t5:=Tryz.underlying5
 a5:=Tryz.isAgg5
 z5:=Tryz.sizeOf5
 v5:=Tryz.zeroValue5
 t9:=Tryz.underlying9
 a9:=Tryz.isAgg9
 z9:=Tryz.sizeOf9
 v9:=Tryz.zeroValue9
 t46:=Tryz.underlying71
 a46:=Tryz.isAgg71
 z46:=Tryz.sizeOf71
 v46:=Tryz.zeroValue71
 t51:=Tryz.underlying194
 a51:=Tryz.isAgg194
 z51:=Tryz.sizeOf194
 v51:=Tryz.zeroValue194
 t146:=Tryz.underlying195
 a146:=Tryz.isAgg195
 z146:=Tryz.sizeOf195
 v146:=Tryz.zeroValue195
 g1:=by kernel_rfl}
open Go.RowKit Go.Lib in
theorem Tryz.strings_Index(s sub:ByteArray)(m:Int)(w:World)(hs:s.size<4294967281)(hm:w.cell? ⟨1,0,none⟩=some (.int .i64 m)):
 Calls Tryz.prog 161 #[.string s,.string sub] w λe w'=>e= .returned (.int .i64 (Lib.index s.data.toList sub.data.toList))/\w'=w:=Any.strings_Index zk s sub m w hs hm
def rO:Go.Shelf.Ren:=⟨λ|144=>177|143=>161|219=>219|217=>228|225=>276|224=>277|267=>278|266=>283|314=>310|n=>n,λ|9=>9|4=>4|3=>3|5=>5|46=>71|146=>195|51=>194|n=>n,λ|1=>1|n=>n⟩
theorem zl:Go.Proofs.Lays.n144 Tryz.prog rO:={
 mixed:=by kernel_rfl
 f143:=Tryz.func161.trans (congrArg some (by kernel_rfl))
 f144:=Tryz.func177.trans (congrArg some (by kernel_rfl))
 f217:=Tryz.func228.trans (congrArg some (by kernel_rfl))
 f219:=Tryz.func219.trans (congrArg some (by kernel_rfl))
 f224:=Tryz.func277.trans (congrArg some (by kernel_rfl))
 f225:=Tryz.func276.trans (congrArg some (by kernel_rfl))
 f266:=Tryz.func283.trans (congrArg some (by kernel_rfl))
 f267:=Tryz.func278.trans (congrArg some (by kernel_rfl))
 f314:=Tryz.func310.trans (congrArg some (by kernel_rfl))
 t3:=Tryz.underlying3
 a3:=Tryz.isAgg3
 z3:=Tryz.sizeOf3
 v3:=Tryz.zeroValue3
 t4:=Tryz.underlying4
 a4:=Tryz.isAgg4
 z4:=Tryz.sizeOf4
 v4:=Tryz.zeroValue4
 t5:=Tryz.underlying5
 a5:=Tryz.isAgg5
 z5:=Tryz.sizeOf5
 v5:=Tryz.zeroValue5
 t9:=Tryz.underlying9
 a9:=Tryz.isAgg9
 z9:=Tryz.sizeOf9
 v9:=Tryz.zeroValue9
 t46:=Tryz.underlying71
 a46:=Tryz.isAgg71
 z46:=Tryz.sizeOf71
 v46:=Tryz.zeroValue71
 t51:=Tryz.underlying194
 a51:=Tryz.isAgg194
 z51:=Tryz.sizeOf194
 v51:=Tryz.zeroValue194
 t146:=Tryz.underlying195
 a146:=Tryz.isAgg195
 z146:=Tryz.sizeOf195
 v146:=Tryz.zeroValue195
 g1:=by kernel_rfl}
open Go.RowKit Go.Lib in
theorem Tryz.strings_Contains(s sub:ByteArray)(m:Int)(w:World)(hs:s.size<4294967281)(hm:w.cell? ⟨1,0,none⟩=some (.int .i64 m)):
 Calls Tryz.prog 177 #[.string s,.string sub] w λe w'=>e= .returned (.bool (Lib.contains s.data.toList sub.data.toList))/\w'=w:=Any.strings_Contains zl s sub m w hs hm
def rP:Go.Shelf.Ren:=⟨λ|189=>230|125=>154|257=>285|128=>208|129=>209|294=>312|295=>313|296=>314|297=>315|298=>316|299=>317|216=>318|300=>319|301=>320|328=>332|329=>248|330=>249|331=>333|332=>334|215=>152|343=>347|n=>n,λ|28=>23|3=>3|46=>71|0=>0|51=>194|53=>197|4=>4|183=>305|182=>304|131=>98|5=>5|9=>9|218=>351|222=>355|228=>377|229=>378|n=>n,λ|n=>n⟩
theorem zm:Go.Proofs.Lays.n189 Tryz.prog rP:={
 mixed:=by kernel_rfl
 f125:=Tryz.func154.trans (congrArg some (by kernel_rfl))
 f128:=Tryz.func208.trans (congrArg some (by kernel_rfl))
 f129:=Tryz.func209.trans (congrArg some (by kernel_rfl))
 f189:=Tryz.func230.trans (congrArg some (by kernel_rfl))
 f215:=Tryz.func152.trans (congrArg some (by kernel_rfl))
 f216:=Tryz.func318.trans (congrArg some (by kernel_rfl))
 f257:=Tryz.func285.trans (congrArg some (by kernel_rfl))
 f294:=Tryz.func312.trans (congrArg some (by kernel_rfl))
 f295:=Tryz.func313.trans (congrArg some (by kernel_rfl))
 f296:=Tryz.func314.trans (congrArg some (by kernel_rfl))
 f297:=Tryz.func315.trans (congrArg some (by kernel_rfl))
 f298:=Tryz.func316.trans (congrArg some (by kernel_rfl))
 f299:=Tryz.func317.trans (congrArg some (by kernel_rfl))
 f300:=Tryz.func319.trans (congrArg some (by kernel_rfl))
 f301:=Tryz.func320.trans (congrArg some (by kernel_rfl))
 f328:=Tryz.func332.trans (congrArg some (by kernel_rfl))
 f329:=Tryz.func248.trans (congrArg some (by kernel_rfl))
 f330:=Tryz.func249.trans (congrArg some (by kernel_rfl))
 f331:=Tryz.func333.trans (congrArg some (by kernel_rfl))
 f332:=Tryz.func334.trans (congrArg some (by kernel_rfl))
 f343:=Tryz.func347.trans (congrArg some (by kernel_rfl))
 t0:=Tryz.underlying0
 a0:=Tryz.isAgg0
 z0:=Tryz.sizeOf0
 v0:=Tryz.zeroValue0
 t3:=Tryz.underlying3
 a3:=Tryz.isAgg3
 z3:=Tryz.sizeOf3
 v3:=Tryz.zeroValue3
 t4:=Tryz.underlying4
 a4:=Tryz.isAgg4
 z4:=Tryz.sizeOf4
 v4:=Tryz.zeroValue4
 t5:=Tryz.underlying5
 a5:=Tryz.isAgg5
 z5:=Tryz.sizeOf5
 v5:=Tryz.zeroValue5
 t9:=Tryz.underlying9
 a9:=Tryz.isAgg9
 z9:=Tryz.sizeOf9
 v9:=Tryz.zeroValue9
 t28:=Tryz.underlying23
 a28:=Tryz.isAgg23
 z28:=Tryz.sizeOf23
 v28:=Tryz.zeroValue23
 t46:=Tryz.underlying71
 a46:=Tryz.isAgg71
 z46:=Tryz.sizeOf71
 v46:=Tryz.zeroValue71
 t51:=Tryz.underlying194
 a51:=Tryz.isAgg194
 z51:=Tryz.sizeOf194
 v51:=Tryz.zeroValue194
 t53:=Tryz.underlying197
 a53:=Tryz.isAgg197
 z53:=Tryz.sizeOf197
 v53:=Tryz.zeroValue197
 t131:=Tryz.underlying98
 a131:=Tryz.isAgg98
 z131:=Tryz.sizeOf98
 v131:=Tryz.zeroValue98
 t182:=Tryz.underlying304
 a182:=Tryz.isAgg304
 z182:=Tryz.sizeOf304
 v182:=Tryz.zeroValue304
 t183:=Tryz.underlying305
 a183:=Tryz.isAgg305
 z183:=Tryz.sizeOf305
 v183:=Tryz.zeroValue305
 t218:=Tryz.underlying351
 a218:=Tryz.isAgg351
 z218:=Tryz.sizeOf351
 v218:=Tryz.zeroValue351
 t222:=Tryz.underlying355
 a222:=Tryz.isAgg355
 z222:=Tryz.sizeOf355
 v222:=Tryz.zeroValue355
 t228:=Tryz.underlying377
 a228:=Tryz.isAgg377
 z228:=Tryz.sizeOf377
 v228:=Tryz.zeroValue377
 t229:=Tryz.underlying378
 a229:=Tryz.isAgg378
 z229:=Tryz.sizeOf378
 v229:=Tryz.zeroValue378}
open Go.Sort Go.RowKit in
theorem Tryz.slices_Sort_int(blk off cap:Nat)(zs:List Int)(w:World)(hH:Holds (Value.int .i64) w blk off zs.toArray)(hblk:blk<w.heap.size)(hsz:zs.length<4611686018427387904):
 Calls Tryz.prog 230 #[.slice (some ⟨blk,off,none⟩) zs.length cap] w λe w'=>
  e= .returned (.tuple #[])/\ ∃n os,w'=grow (putRow (Value.int .i64) (Sort.ahead w n) blk off (zs.mergeSort λx y=>decide (x<=y)).toArray) os:=Any.slices_Sort_int zm blk off cap zs w hH hblk hsz
def qH:Go.Shelf.Ren:=⟨λ|15=>171|20=>224|n=>n,λ|9=>9|23=>263|3=>3|4=>4|0=>0|21=>21|n=>n,λ|n=>n⟩
theorem wm:Go.Proofs.LaysGw.n15 Tryz.prog qH:={
 mixed:=by kernel_rfl
 f15:=Tryz.func171.trans (congrArg some (by kernel_rfl))
 f20:=Tryz.func224.trans (congrArg some (by kernel_rfl))
 t0:=Tryz.underlying0
 a0:=Tryz.isAgg0
 z0:=Tryz.sizeOf0
 v0:=Tryz.zeroValue0
 i0:=by kernel_rfl
 t3:=Tryz.underlying3
 a3:=Tryz.isAgg3
 z3:=Tryz.sizeOf3
 v3:=Tryz.zeroValue3
 i3:=by kernel_rfl
 t4:=Tryz.underlying4
 a4:=Tryz.isAgg4
 z4:=Tryz.sizeOf4
 v4:=Tryz.zeroValue4
 i4:=by kernel_rfl
 t9:=Tryz.underlying9
 a9:=Tryz.isAgg9
 z9:=Tryz.sizeOf9
 v9:=Tryz.zeroValue9
 i9:=by kernel_rfl
 t21:=Tryz.underlying21
 a21:=Tryz.isAgg21
 z21:=Tryz.sizeOf21
 v21:=Tryz.zeroValue21
 i21:=by kernel_rfl
 t23:=Tryz.underlying263
 a23:=Tryz.isAgg263
 z23:=Tryz.sizeOf263
 v23:=Tryz.zeroValue263
 i23:=by kernel_rfl}
open Go.RowKit Go.Lib in
theorem Tryz.strings_IndexFunc(g:Nat)(lb:Array Value)(eg: ∀args w,(callFunc g args).run Tryz.prog w= .ok (.enter g args) w)(p:Nat->Bool)(s:ByteArray)(w:World)(hp:PredAt Tryz.prog g lb encR p w):
 Calls Tryz.prog 171 #[.string s,.func (.func g) #[] lb] w λe w'=>e= .returned (.int .i64 (Lib.idxFunc p true s))/\Below w.heap.size w w':=Any.strings_IndexFunc wm g lb eg p s w hp
def rQ:Go.Shelf.Ren:=⟨λ|212=>45|263=>102|264=>103|n=>n,λ|46=>71|51=>194|146=>195|53=>197|148=>198|n=>n,λ|n=>n⟩
theorem zn:Go.Proofs.Lays.n212 Tryz.prog rQ:={
 mixed:=by kernel_rfl
 f212:=Tryz.func45.trans (congrArg some (by kernel_rfl))
 f263:=Tryz.func102.trans (congrArg some (by kernel_rfl))
 f264:=Tryz.func103.trans (congrArg some (by kernel_rfl))
 t46:=Tryz.underlying71
 a46:=Tryz.isAgg71
 z46:=Tryz.sizeOf71
 v46:=Tryz.zeroValue71
 t51:=Tryz.underlying194
 a51:=Tryz.isAgg194
 z51:=Tryz.sizeOf194
 v51:=Tryz.zeroValue194
 t53:=Tryz.underlying197
 a53:=Tryz.isAgg197
 z53:=Tryz.sizeOf197
 v53:=Tryz.zeroValue197
 t146:=Tryz.underlying195
 a146:=Tryz.isAgg195
 z146:=Tryz.sizeOf195
 v146:=Tryz.zeroValue195
 t148:=Tryz.underlying198
 a148:=Tryz.isAgg198
 z148:=Tryz.sizeOf198
 v148:=Tryz.zeroValue198}
open Go.RowKit Go.Lib in
theorem Tryz.bits_Mul(x y:Nat)(hx:x<18446744073709551616)(hy:y<18446744073709551616)(w:World):
 Calls Tryz.prog 45 #[.int .u64 x,.int .u64 y] w λe w'=>e= .returned (.tuple #[.int .u64 ((x*y/18446744073709551616:Nat):Int),.int .u64 ((x*y%18446744073709551616:Nat):Int)])/\w'=w:=Any.bits_Mul zn x y hx hy w
def me:Go.Shelf.Ren:=⟨λ|105=>46|212=>45|99=>60|165=>104|166=>69|170=>105|169=>70|263=>102|264=>103|206=>121|240=>128|241=>167|276=>183|277=>222|n=>n,λ|9=>9|3=>3|4=>4|20=>20|0=>0|46=>71|109=>106|5=>5|72=>141|76=>144|51=>194|146=>195|53=>197|148=>198|70=>139|37=>41|75=>143|127=>220|164=>276|80=>54|n=>n,λ|n=>n⟩
theorem zo:Go.Proofs.Lays.n105 Tryz.prog me:={
 mixed:=by kernel_rfl
 f99:=Tryz.func60.trans (congrArg some (by kernel_rfl))
 f105:=Tryz.func46.trans (congrArg some (by kernel_rfl))
 f165:=Tryz.func104.trans (congrArg some (by kernel_rfl))
 f166:=Tryz.func69.trans (congrArg some (by kernel_rfl))
 f169:=Tryz.func70.trans (congrArg some (by kernel_rfl))
 f170:=Tryz.func105.trans (congrArg some (by kernel_rfl))
 f206:=Tryz.func121.trans (congrArg some (by kernel_rfl))
 f212:=Tryz.func45.trans (congrArg some (by kernel_rfl))
 f240:=Tryz.func128.trans (congrArg some (by kernel_rfl))
 f241:=Tryz.func167.trans (congrArg some (by kernel_rfl))
 f263:=Tryz.func102.trans (congrArg some (by kernel_rfl))
 f264:=Tryz.func103.trans (congrArg some (by kernel_rfl))
 f276:=Tryz.func183.trans (congrArg some (by kernel_rfl))
 f277:=Tryz.func222.trans (congrArg some (by kernel_rfl))
 t0:=Tryz.underlying0
 a0:=Tryz.isAgg0
 z0:=Tryz.sizeOf0
 v0:=Tryz.zeroValue0
 t3:=Tryz.underlying3
 a3:=Tryz.isAgg3
 z3:=Tryz.sizeOf3
 v3:=Tryz.zeroValue3
 t4:=Tryz.underlying4
 a4:=Tryz.isAgg4
 z4:=Tryz.sizeOf4
 v4:=Tryz.zeroValue4
 t5:=Tryz.underlying5
 a5:=Tryz.isAgg5
 z5:=Tryz.sizeOf5
 v5:=Tryz.zeroValue5
 t9:=Tryz.underlying9
 a9:=Tryz.isAgg9
 z9:=Tryz.sizeOf9
 v9:=Tryz.zeroValue9
 t20:=Tryz.underlying20
 a20:=Tryz.isAgg20
 z20:=Tryz.sizeOf20
 v20:=Tryz.zeroValue20
 t37:=Tryz.underlying41
 a37:=Tryz.isAgg41
 z37:=Tryz.sizeOf41
 v37:=Tryz.zeroValue41
 t46:=Tryz.underlying71
 a46:=Tryz.isAgg71
 z46:=Tryz.sizeOf71
 v46:=Tryz.zeroValue71
 t51:=Tryz.underlying194
 a51:=Tryz.isAgg194
 z51:=Tryz.sizeOf194
 v51:=Tryz.zeroValue194
 t53:=Tryz.underlying197
 a53:=Tryz.isAgg197
 z53:=Tryz.sizeOf197
 v53:=Tryz.zeroValue197
 t70:=Tryz.underlying139
 a70:=Tryz.isAgg139
 z70:=Tryz.sizeOf139
 v70:=Tryz.zeroValue139
 t72:=Tryz.underlying141
 a72:=Tryz.isAgg141
 z72:=Tryz.sizeOf141
 v72:=Tryz.zeroValue141
 t75:=Tryz.underlying143
 a75:=Tryz.isAgg143
 z75:=Tryz.sizeOf143
 v75:=Tryz.zeroValue143
 t76:=Tryz.underlying144
 a76:=Tryz.isAgg144
 z76:=Tryz.sizeOf144
 v76:=Tryz.zeroValue144
 t109:=Tryz.underlying106
 a109:=Tryz.isAgg106
 z109:=Tryz.sizeOf106
 v109:=Tryz.zeroValue106
 t127:=Tryz.underlying220
 a127:=Tryz.isAgg220
 z127:=Tryz.sizeOf220
 v127:=Tryz.zeroValue220
 t146:=Tryz.underlying195
 a146:=Tryz.isAgg195
 z146:=Tryz.sizeOf195
 v146:=Tryz.zeroValue195
 t148:=Tryz.underlying198
 a148:=Tryz.isAgg198
 z148:=Tryz.sizeOf198
 v148:=Tryz.zeroValue198
 t164:=Tryz.underlying276
 a164:=Tryz.isAgg276
 z164:=Tryz.sizeOf276
 v164:=Tryz.zeroValue276}
theorem mR:Builder.Extra Tryz.prog me:={
 sizeBuilder:=by kernel_rfl
 liesBuilder:=by kernel_rfl
 t5:=Tryz.underlying5
 a5:=Tryz.isAgg5
 z5:=Tryz.sizeOf5
 v5:=Tryz.zeroValue5
 infoByte:=by kernel_rfl
 cellsByte:=by kernel_rfl
 sizeByte:=by kernel_rfl
 neB5:=by decide}
open Go.RowKit Go.Lib in
theorem Tryz.strings_Repeat(s:ByteArray)(c:Nat)(w:World)(hc:c<=9223372036854775807)(hlen:s.size*c<=140737488355328):
 Calls Tryz.prog 46 #[.string s,.int .i64 c] w λe w'=>e= .returned (.string ⟨(Lib.repeatL s.data.toList c).toArray⟩)/\Below w.heap.size w w':=Any.strings_Repeat zo mR s c w hc hlen
end Go.Proofs
namespace Go.Proofs.YtebpkhlifcffnaaGreatDoor
open Go Go.SL
structure DSt where
 aJ:List (List UInt8)
 since:List (Nat×List UInt8)
 left:Nat
 keep:List Int
 off:Bool
 done:Nat
def gG:List UInt8:=List.replicate 512 0
def bF(s:List UInt8):List UInt8:=s++List.replicate (512-s.length) 0
def Dh(keep:List Int)(k:Nat):Bool:=decide (0<keep.length/\keep[k%keep.length]! %2=1)
def eW(since:List (Nat×List UInt8))(keep:List Int)(aJ:List (List UInt8))(n:Nat):List (List UInt8):=
 (List.range n).foldl (λl k=>if Dh keep k then l.set since[k]!.1 since[k]!.2 else l) aJ
def p9(s:DSt)(keep:List Int):DSt:={s with aJ:=eW s.since keep s.aJ s.since.length,since:=[],left:=0,off:=true}
def eN(s:DSt):Nat:=if s.off then 7 else if s.left=1 then 7 else 0
def dr(s:DSt):DSt:=if s.off then s else if s.left=1 then p9 s s.keep else{s with left:=s.left-1,done:=s.done+1}
def hasB(s:DSt)(i:Int):Bool:=decide (0<=i/\i<(s.aJ.length:Int))
def p6(s:DSt)(n k:Nat):List UInt8:=(List.range k).foldl (λx j=>if s.since[j]!.1=n then s.since[j]!.2 else x) s.aJ[n]!
def cD(s:DSt)(i:Int):List UInt8×Nat:=if ¬hasB s i then([],1) else if s.off then([],7) else(p6 s i.toNat s.since.length,0)
def qW(s:DSt)(i:Int)(d:List UInt8):Bool:=decide (¬(hasB s i=true)∨512<d.length)
def eM(s:DSt)(i:Int)(d:List UInt8):Nat:=if qW s i d then 1 else eN s
def eL(s:DSt)(i:Int)(d:List UInt8):DSt:=if qW s i d then s else if eN s=0 then{dr s with since:=(dr s).since++[(i.toNat,bF d)]} else dr s
def ek(s:DSt):DSt:=if eN s=0 then{dr s with aJ:=eW (dr s).since [1] (dr s).aJ (dr s).since.length,since:=[]} else dr s
def vZ(s:DSt)(n:Int)(keep:List Int):DSt:={s with left:=(max n 1).toNat,keep:=keep}
def onS(s:DSt):DSt:={s with off:=false,left:=0}
def re(n:Nat):DSt:=⟨List.replicate n gG,[],0,[],false,0⟩
structure DOk(s:DSt)(m:Nat):Prop where
 at_: ∀w∈s.since,w.1<s.aJ.length
 aJ:s.aJ.length<=4096
 left:s.left<=9223372036854775807
 since:s.since.length<=m
 done:s.done<=m
theorem iV(since:List (Nat×List UInt8))(keep:List Int)(aJ:List (List UInt8))(n:Nat):eW since keep aJ (n+1)=if Dh keep n then(eW since keep aJ n).set since[n]!.1 since[n]!.2 else eW since keep aJ n:=by
 unfold eW
 rw[List.range_succ,List.foldl_append];rfl
theorem jf(since:List (Nat×List UInt8))(keep:List Int)(aJ:List (List UInt8)): ∀n,(eW since keep aJ n).length=aJ.length
 |0=>rfl
 |n+1=>by rw[iV];split<;>simp[jf since keep aJ n]
theorem tN(s:DSt)(n k:Nat):p6 s n (k+1)=if s.since[k]!.1=n then s.since[k]!.2 else p6 s n k:=by
 unfold p6
 rw[List.range_succ,List.foldl_append];rfl
theorem DOk.mono{s:DSt}{m m':Nat}(h:DOk s m)(hm:m<=m'):DOk s m':=⟨h.at_,h.aJ,h.left,Nat.le_trans h.since hm,Nat.le_trans h.done hm⟩
theorem DOk.fail{s:DSt}{m:Nat}(h:DOk s m)(keep:List Int):DOk (p9 s keep) m:=
 ⟨λw hw=>absurd hw List.not_mem_nil,by show(eW _ _ _ _).length<=_;rw[jf];exact h.aJ,by show 0<=_;omega,by show 0<=_;omega,h.done⟩
theorem DOk.step{s:DSt}{m:Nat}(h:DOk s m):DOk (dr s) (m+1):=by
 unfold dr
 split
 ·exact h.mono ao
 ·split
  ·exact(h.fail _).mono ao
  ·exact⟨h.at_,h.aJ,by show _-1<=_;have:=h.left;omega,by have:=h.since;show _<=_;exact Nat.le_succ_of_le this,Nat.succ_le_succ h.done⟩
theorem kH(s:DSt):(dr s).aJ.length=s.aJ.length:=by
 unfold dr
 split
 ·rfl
 ·split
  ·exact jf _ _ _ _
  ·rfl
theorem sZ{s:DSt}{i:Int}(h:hasB s i=true):i.toNat<s.aJ.length/\(i.toNat:Int)=i:=by
 have h1:=of_decide_eq_true h
 omega
theorem yy{s:DSt}{i:Int}{d:List UInt8}(h: ¬qW s i d=true):hasB s i=true/\d.length<=512:=by
 unfold qW at h
 rw[decide_eq_true_eq] at h
 exact⟨Decidable.byContradiction λh1=>h (.inl h1),by omega⟩
theorem DOk.put{s:DSt}{m:Nat}(h:DOk s m)(i:Int)(d:List UInt8):DOk (eL s i d) (m+1):=by
 unfold eL
 split
 ·exact h.mono ao
 ·rename_i hb
  obtain⟨h1,_⟩:=yy hb
  obtain⟨h2,_⟩:=sZ h1
  have hs:=h.step
  split
  ·rename_i h0
   refine⟨λw hw=>?_,hs.aJ,hs.left,?_,hs.done⟩
   ·rcases List.mem_append.1 hw with hw|hw
    ·exact hs.at_ w hw
    ·rw[List.mem_singleton] at hw
     subst hw
     show i.toNat<(dr s).aJ.length
     rw[kH];exact h2
   ·show((dr s).since++[_]).length<=_
    have hl:(dr s).since.length<=m:=by
     unfold dr
     split
     ·exact h.since
     ·split
      ·exact Nat.zero_le _
      ·exact h.since
    simp;omega
  ·exact hs
theorem DOk.sync{s:DSt}{m:Nat}(h:DOk s m):DOk (ek s) (m+1):=by
 have hs:=h.step
 unfold ek
 split
 ·exact⟨λw hw=>absurd hw List.not_mem_nil,by show(eW _ _ _ _).length<=_;rw[jf];exact hs.aJ,hs.left,by show 0<=_;omega,hs.done⟩
 ·exact hs
theorem DOk.cut{s:DSt}{m:Nat}(h:DOk s m)(n:Int)(hn:n<=9223372036854775807)(keep:List Int):DOk (vZ s n keep) m:=
 ⟨h.at_,h.aJ,by show(max n 1).toNat<=_;omega,h.since,h.done⟩
theorem DOk.on{s:DSt}{m:Nat}(h:DOk s m):DOk (onS s) m:=⟨h.at_,h.aJ,by show 0<=_;omega,h.since,h.done⟩
theorem DOk.new{n:Nat}(h:n<=4096):DOk (re n) 0:=⟨λw hw=>absurd hw List.not_mem_nil,by simp[re];omega,by show 0<=_;omega,Nat.le_refl _,Nat.le_refl _⟩
theorem RX(v:Int):land .i64 v 1=(v%2).toNat:=by
 unfold land
 rw[Nat.and_one_is_mod,BitVec.toNat_ofInt]
 show(v%((2^64:Nat):Int)).toNat%2=_
 omega
theorem El(k:Nat):Dh [1] k=true:=by
 unfold Dh
 simp[Nat.mod_one]
theorem fH{s:List UInt8}(h:s.length<=512):(bF s).length=512:=by simp[bF];omega
theorem K1{s:List UInt8}(h:s.length<=512):s++gG.drop s.length=bF s:=by
 unfold bF gG;rw[List.drop_replicate]
end Go.Proofs.YtebpkhlifcffnaaGreatDoor
namespace Go.Proofs.YtebpkhlifcffnaaGreatDoor
open Go Go.SL
theorem iB(n:Nat):Lib.repeatL [0] n=List.replicate n 0:=by
 have:=Lib.repeatL_replicate 0 1 n
 rwa [Nat.mul_one] at this
set_option maxRecDepth 20000 in
theorem vK{R:List RO}{O:List Own}{POST:Value->List RO->List Own->Prop}(hk:POST (vs gG) R O):Fun Tryz.prog 18 #[] R O POST:=by
 refine aC (l:=[]) Tryz.func18 rfl Tryz.ntmps18 rfl (L0:=[]) rfl ?_
 refine aD<|ar rfl<|a7 ?_
 refine aq rfl<|aj rfl rfl aZ an rfl rfl rfl ?_
 refine Fun.below (v:=vs (Lib.repeatL [0] 512)) (λw=>Tryz.strings_Repeat ⟨#[0]⟩ 512 w ao (by show 1*_<=_;omega)) ?_
 rw[iB,show List.replicate 512 (0:UInt8)=gG from rfl]
 refine ar rfl<|aw<|WC.ret (Ret.one Tryz.results18 rfl ?_)
 exact hk
set_option maxRecDepth 20000 in
theorem xA{R:List RO}{O:List Own}{POST:Value->List RO->List Own->Prop}{s:List UInt8}(hs:s.length<=512)(hk:POST (vs (bF s)) R O):Fun Tryz.prog 51 #[vs s] R O POST:=by
 have hz:gG.length=512:=List.length_replicate
 refine aC (l:=[_]) Tryz.func51 rfl Tryz.ntmps51 rfl (L0:=[(0,_)]) rfl ?_
 refine aD<|ar rfl<|a7<|af rfl ?_
 refine aq rfl<|aj rfl rfl aZ an rfl rfl rfl ?_
 refine vK ?_
 refine af rfl<|ab rfl (cg (ts:=#[]) (ty:=0) rfl rfl Tryz.underlying9) ?_
 refine ab rfl (gh (lo:=s.length) (s:=gG) rfl Tryz.underlying9 rfl rfl rfl ao) ?_
 refine ab rfl (cA rfl rfl rfl (by rw[List.length_drop];omega)) ?_
 refine ar rfl<|aw<|WC.ret (Ret.one Tryz.results51 rfl ?_)
 rw[K1 hs]
 exact hk
set_option maxHeartbeats 1000000 in
set_option maxRecDepth 20000 in
theorem Af{R:List RO}{O:List Own}{POST:Value->List RO->List Own->Prop}{v:List UInt8}{n bx:Nat}(hn1:1<=n)(hn:n<=4096)(hx:az bx 9 [vs v]∈O)
 (hk: ∀b,POST (.slice (some ⟨b,0,none⟩) n n) R (az b 9 (List.replicate n (vs v))::O)):Fun Tryz.prog 17 #[.slice (some ⟨bx,0,none⟩) 1 1,.int .i64 (n:Int)] R O POST:=by
 refine aC (l:=[_,_]) Tryz.func17 rfl Tryz.ntmps17 rfl (L0:=[(0,_),(1,_)]) rfl ?_
 refine aD<|ar rfl<|aw<|bd<|af rfl<|ab rfl (Rd.lss rfl rfl rfl)<|aw ?_
 refine aE rfl (λhc1=>?_) (λhc1=>?_)
 ·
  omega
 ·
  refine ay<|aa<|aD<|af rfl<|ab rfl (Rd.len rfl rfl Tryz.underlying37)<|ab rfl (ck (kd':=.u64) (p:=((1:Nat):Int)) rfl rfl Tryz.underlying71 (wrap_u64 ao) (hS:=Tryz.underlying3)) ?_
  refine af rfl<|ab rfl (ck (kd':=.u64) (p:=(n:Int)) rfl rfl Tryz.underlying71 (wrap_u64 ao) (hS:=Tryz.underlying3)) ?_
  refine aq rfl<|aj rfl rfl aZ an rfl rfl rfl ?_
  refine Fun.still (λw=>Tryz.bits_Mul 1 n ao ao w) ?_
  refine af rfl<|bH rfl<|aU 19 (u:=.int .u64 0) rfl (by rw[show 1*n/18446744073709551616=0 from by omega];rfl) ?_
  refine bH rfl<|aU 20 (u:=.int .u64 (n:Int)) rfl (by rw[show 1*n%18446744073709551616=n from by omega];rfl) ?_
  refine ar rfl<|ar rfl<|aw<|bd<|af rfl<|ab rfl (Rd.gtr rfl rfl rfl)<|af rfl<|WL.case 23 rfl (λhg23=>?_) (λhg23=>?_)
  ·
   exact absurd hg23 ct
  ·
   refine aT rfl (al rfl rfl)<|aT rfl (Rd.gtr rfl rfl rfl)<|ab rfl (aQ rfl rfl rfl)<|aw<|aE rfl (λhc2=>?_) (λhc2=>?_)
   ·
    omega
   ·
    refine ay<|aa<|aD<|af rfl<|ab rfl (ck (kd':=.i64) (p:=(n:Int)) rfl rfl Tryz.underlying3 (wrap_i64 ao) (hS:=Tryz.underlying71)) ?_
    refine aq rfl<|kc (m:=n) (c:=n) rfl S37 rfl rfl rfl rfl rfl ao ao ao rfl rfl ?_;intro b30
    refine ar rfl<|a7<|af rfl<|af rfl<|aq rfl<|OpW.DG (cs:=[vs v]) rfl S37 rfl rfl (Take.head _) (by show 1=min 1 n;omega) (λw _ hO j u hj=>?_) (by simp;omega) (by intro u hu;rw[List.mem_singleton] at hu;subst hu;rfl) rfl rfl ?_
    ·rw[cr rfl]
     have:=cy (hO _ (List.mem_cons_of_mem _ hx)) hj
     simpa using this
    have e0:(List.replicate n (vs [])).take 0++[vs v]++(List.replicate n (vs [])).drop (0+ [vs v].length)=List.replicate 1 (vs v)++List.replicate (n-1) (vs []):=by simp
    refine WL.heap (R':=R) (O':=az b30 9 (List.replicate 1 (vs v)++List.replicate (n-1) (vs []))::O) (λw h=>by rw[←e0];exact h) ?_
    refine ar rfl<|aw<|aF<|WC.block ?_
    refine WC.pick [8,7] eS ?_
    refine WC.iJ 1 (λ(m:Nat)=>[(8,.int .i64 (m:Int))]) (λ(m:Nat)=>az b30 9 (List.replicate m (vs v)++List.replicate (n-m) (vs []))::O) (λ(m:Nat)=>1<=m/\m<=n) (λ(m:Nat)=>n-m) (1) iw ?hinv1 cC (λ_ h=>h) ?_
    case hinv1=>
     exact⟨Nat.le_refl _,hn1⟩
    intro m
    rintro⟨i1,i2⟩
    refine bd<|af rfl<|af rfl<|ab rfl (Rd.len rfl rfl Tryz.underlying37)<|ab rfl (Rd.lss rfl rfl rfl)<|aw ?_
    refine aE rfl (λhc3=>?_) (λhc3=>?_)
    ·
     refine ay<|aa<|WC.block ?_
     refine WC.drawn (O) 10 rfl mixed ?_
     refine ae 0 rfl an aN rfl rfl rfl (al rfl rfl) ?_
     refine ae 1 rfl an aN rfl rfl rfl (al rfl rfl) ?_
     refine ae 2 rfl an aN rfl rfl rfl (al rfl rfl) ?_
     refine ae 3 rfl an aN rfl rfl rfl (ij (lo:=m) rfl S37 rfl rfl rfl (by intro h;cases h) ao) ?_
     refine WD.say 41 (u:=.slice (some ⟨b30,m,none⟩) (n-m) (n-m)) rfl (by simp only[dW];rw[if_neg ao];simp[cr]) ?_
     refine ae 4 rfl an aN rfl rfl rfl (al rfl rfl) ?_
     refine ae 5 rfl an aN rfl rfl rfl (al rfl rfl) ?_
     refine ae 6 rfl an aN rfl rfl rfl (rL (hi:=m) rfl S37 rfl rfl rfl (by intro h;cases h) ao) ?_
     refine WD.say 44 (u:=.slice (some ⟨b30,0,none⟩) m n) rfl (Ce _ _ _ _ _) ?_
     refine aS 7 rfl an rfl ?_
     refine OpW.DG (cs:=List.replicate (min m (n-m)) (vs v)) rfl S37 rfl rfl (Take.head _) (by rw[List.length_replicate]) (λw _ hO j u hj=>?_) (by simp<;>omega) (by intro u hu;rw[List.eq_of_mem_replicate hu];rfl) rfl rfl ?_
     ·rw[cr rfl]
      have hlt:=(List.getElem?_eq_some_iff.1 hj).1
      rw[List.length_replicate] at hlt
      have hu:u=vs v:=by have:=(List.getElem?_eq_some_iff.1 hj).2;simpa using this.symm
      subst hu
      have:=cy (j:=j) (u:=vs v) (hO _ List.mem_cons_self) (by rw[List.getElem?_append_left (by rw[List.length_replicate];omega),List.getElem?_replicate,if_pos ao])
      simpa using this
     refine⟨aN,?_⟩
     rw[List.length_replicate]
     have e1:(List.replicate m (vs v)++List.replicate (n-m) (vs [])).take m++List.replicate (min m (n-m)) (vs v)++(List.replicate m (vs v)++List.replicate (n-m) (vs [])).drop (m+min m (n-m))=List.replicate (m+min m (n-m)) (vs v)++List.replicate (n-(m+min m (n-m))) (vs []):=by
      rw[List.take_left' List.length_replicate,List.replicate_append_replicate,List.drop_append,List.length_replicate,List.drop_eq_nil_of_le (by rw[List.length_replicate];omega),List.nil_append,List.drop_replicate]
      congr 2;omega
     rw[e1]
     refine ae 8 rfl an aN rfl rfl rfl (Rd.add rfl rfl rfl ao) ?_
     refine ae 9 rfl an aN rfl rfl rfl (Rd.assign rfl rfl) ?_
     refine WD.done an ?_
     exact aA<|bq.mk (m+min m (n-m)) ⟨by omega,by omega⟩ ao cC bN
    ·
     refine WC.exit<|au.exit<|bq.exit<|aH.exit<|aa<|aD<|af rfl<|ar rfl<|aw ?_
     obtain rfl:m=n:=by omega
     refine WC.heap (R':=R) (O':=az b30 9 (List.replicate m (vs v))::O) (λw h=>by rw[Nat.sub_self,List.replicate_zero,List.append_nil] at h;exact h) ?_
     refine WC.ret (Ret.one Tryz.results17 rfl ?_)
     exact hk b30
end Go.Proofs.YtebpkhlifcffnaaGreatDoor
namespace Go.SL
open Go
section
variable{P:Program}{n:Sz}{o:Oper}{L:Env}{R:List RO}{O O':List Own}{K:Env->List RO->List Own->Prop}{t t' e te:TypeId}{x y u:Operand}{v z:Value}
theorem oa{ad:Option Addr}(ho:o.op= .binOp .neq t x y t')(hT:P.underlying t=some (.pointer te))(hx:ev L x=some (.pointer ad))(hy:ev L y=some (.pointer none)):Rd P o L R O (.bool ad.isSome):=
 nV ho hx hy λw _ _=>by
  have h: ∀d:Nat,(Op.equalIn (d+1) t (.pointer ad) (.pointer none)).run P w= .ok ad.isNone w:=λd=>by
   cases ad<;>simp[Op.equalIn,run_underlying hT]
  simp only[binOp]
  simp[Op.equal,Op.maxDepth,h 9999]
theorem j3{ad:Option Addr}(ho:o.op= .binOp .eql t x y t')(hT:P.underlying t=some (.pointer te))(hx:ev L x=some (.pointer ad))(hy:ev L y=some (.pointer none)):Rd P o L R O (.bool ad.isNone):=
 nV ho hx hy λw _ _=>by
  have h: ∀d:Nat,(Op.equalIn (d+1) t (.pointer ad) (.pointer none)).run P w= .ok ad.isNone w:=λd=>by
   cases ad<;>simp[Op.equalIn,run_underlying hT]
  simp only[binOp]
  simp[Op.equal,Op.maxDepth,h 9999]
theorem mf{a:Option Addr}{m c:Nat}(ho:o.op= .binOp .eql t x y t')(hT:P.underlying t=some (.slice e))(hx:ev L x=some (.slice a m c))(hy:ev L y=some (.slice none 0 0)):Rd P o L R O (.bool a.isNone):=λρ w hρ _ _=>by
 have e0:(eqGuard .eql t x y (.slice a m c) (.slice none 0 0)).run P w= .ok () w:=by
  unfold eqGuard
  split<;>rfl
 simp only[execOp,ho,hρ _ _ hx,hρ _ _ hy,Sem.run_bind,e0,Result.andThen_ok,Lib.run_eql_slice_nil w t e a m c 0 0 hT,Sem.run_pure]
theorem OpW.Fy{f:FuncId}{fn:Func}{ts:Array TypeId}{b off d:Nat}{cs:List Value}{p k:Int}(ho:o.op= .call {callee:=.value x,args:=#[y,u],argTypes:=ts})(hx:ev L x=some (.func (.func f) #[] #[]))(hy:ev L y=some (.pointer (some ⟨b,off,none⟩)))(hu:ev L u=some (.int .i64 k))
 (hf:P.funcs[f]? =some fn) (hname:(fn.name== "runtime.NumGoroutine")=false) (hb:fn.body.isNone=true) (hn0:Extern.findNext fn=none) (he:Extern.find fn=some (Extern.Atomic.update (Op.intArith .add) .i64 true))
 (hT:Take (az b e cs) O O') (hc:cs[off]? =some (.int .i64 p)) (hr: -9223372036854775808<=p+k/\p+k<=9223372036854775807) (hd:o.dst=some d) (hn:Nat.blt d n.n=true)
 (kk:K ((d,.int .i64 (p+k))::L) R (az b e (cs.set off (.int .i64 (p+k)))::O')):OpW P n o L R O K:=by
 intro a w hfr hs Q
 have hs':=hs.perm hT.perm
 have hp:(az b e cs).pred w:=hs'.see List.mem_cons_self
 have hlt:off<cs.length:=(List.getElem?_eq_some_iff.1 hc).1
 have cQ:=cy hp hc
 have hfree:=kB hp off
 have hsum:(Op.intArith .add .i64 p k).run P w= .ok (.int .i64 (p+k)) w:=by
  have:IntKind.i64.wrap (p+k)=p+k:=wrap_i64 hr
  simp[Op.intArith,this]
 have hrun:=run_call_add (P:=P) hf hname hb hn0 .i64 he (y:=k) cQ hfree hsum
 have hr':(execOp a.eval o).run P w= .ok (.value (.int .i64 (p+k))) (w.setCell ⟨b,off,none⟩ (.int .i64 (p+k))):=by
  simp[execOp,ho,resolve,hfr.ev hx,hfr.ev hy,hfr.ev hu,Deferred.ofValue,invoke,hrun]
 unfold Oper.wp
 rw[hr',Oper.upon_value,hd]
 have hlt':b<w.heap.size:=hs'.lt b (by simp[owned,az])
 refine⟨_,_,_,kk,hfr.put hn _,hs'.update _ ⟨rfl,rfl,rfl,by simp,λj hj hne=>heap_setCell_other w _ _ _ (by simpa [az,eq_comm] using hne)⟩ (by simp[az]) (by simpa [az] using hlt') (by simp[az]) (λw'' ha _=>?_)⟩
 show w''.heap[b]? =_
 rw[ha.2.2.2.2 b (by simpa using hlt') (by simp[az])]
 exact lj hp off _
end
section acc
variable{P:Program}{n:Sz}{o:Oper}{L:Env}{R:List RO}{O O':List Own}{K:Env->List RO->List Own->Prop}{t t' e:TypeId}{x y:Operand}{v z:Value}{α:Type}{enc:α->List Value}{xs:List α}{size bytes:Nat}
theorem HL(l:List Value): ∀m i,i<m*l.length->(List.replicate m l).flatten[i]? =some l[i%l.length]!
 |0,i,h=>by simp at h
 |m+1,i,h=>by
  rw[List.replicate_succ,List.flatten_cons]
  by_cases hi:i<l.length
  ·rw[List.getElem?_append_left hi,Nat.mod_eq_of_lt hi,get!_of_lt hi]
  ·rw[List.getElem?_append_right ao,HL l m (i-l.length) (by rw[Nat.add_mul,Nat.one_mul] at h;omega),←Nat.mod_eq_sub_mod ao]
theorem nT(l:Array Value)(m:Nat):(Builtin.zeroCells l m).toList=(List.replicate m l.toList).flatten:=by
 apply List.ext_getElem?
 intro i
 have hlen:((List.replicate m l.toList).flatten).length=m*l.size:=by simp
 by_cases h:i<m*l.size
 ·rw[HL l.toList m i (by simpa using h)]
  simp only[Builtin.zeroCells,Array.toList_map,Array.toList_range,List.getElem?_map,List.getElem?_range h,Option.map_some,Array.length_toList]
  congr 1
  have h0:i%l.size<l.size:=Nat.mod_lt _ (Nat.pos_of_ne_zero λh1=>by rw[h1] at h;simp at h)
  rw[getElem!_pos l _ h0,getElem!_pos l.toList _ (by simpa using h0),Array.getElem_toList]
 ·rw[List.getElem?_eq_none (by simp[Builtin.zeroCells];omega),List.getElem?_eq_none ao]
end acc
end Go.SL
namespace Go.Proofs.YtebpkhlifcffnaaGreatDoor
open Go Go.SL
def kR(x:Nat×List UInt8):List Value:=[.int .i64 (x.1:Int),vs x.2]
structure DV where
 lv:Value
 sv:Value
 kv:Value
 cb:Option Nat
def Gc(cb:Option Nat)(left:Nat)(kv:Value):Own:=match cb with
 |none=>{il:=[],pred:=λ_=>True}
 |some b=>az b 94 [.int .i64 (left:Int),kv]
abbrev RM(cb:Option Nat):Value:=.pointer (cb.map λb=>⟨b,0,none⟩)
abbrev LH(d:Nat)(V:DV)(s:DSt):Own:=az d 63 [V.lv,V.sv,RM V.cb,.bool s.off,.int .i64 (s.done:Int)]
abbrev dO(d:Nat)(V:DV)(s:DSt)(O:List Own):List Own:=LH d V s::bt 9 1 (SL.one vs) V.lv s.aJ::bt 113 2 kR V.sv s.since::Gc V.cb s.left V.kv::O
structure VOk(V:DV)(s:DSt):Prop where
 cb:V.cb=none↔s.left=0
 lv:bL V.lv
 sv:bL V.sv
 kv:bL V.kv
abbrev dp(d:Nat):Value:=.pointer (some ⟨d,0,none⟩)
set_option maxHeartbeats 1000000 in
set_option maxRecDepth 20000 in
theorem J0{R:List RO}{O:List Own}{POST:Value->List RO->List Own->Prop}{nv:Int}(hk1:nv<1∨4096<nv->POST (.tuple #[.pointer none,.int .i64 1]) R O)
 (hk2: ∀n:Nat,nv=n->1<=n->n<=4096-> ∀d V,VOk V (re n)->POST (.tuple #[dp d,.int .i64 0]) (SlE (SL.one vi) V.kv []::R) (dO d V (re n) O)):Fun Tryz.prog 5 #[.int .i64 nv] R O POST:=by
 refine aC (l:=[_]) Tryz.func5 rfl Tryz.ntmps5 rfl (L0:=[(0,_)]) rfl ?_
 refine aD<|ar rfl<|ar rfl<|aw ?_
 refine aF<|WC.pick [0] eS ?_
 refine WC.val 9 (.bool (decide (nv<1∨4096<nv))) ?_ ?_
 ·
  refine aB<|af rfl<|ab rfl (Rd.lss rfl rfl rfl)<|af rfl<|WL.case 6 rfl (λhg6=>?_) (λhg6=>?_)
  ·
   refine aW rfl<|aW rfl<|ab rfl (aY rfl rfl rfl)<|aG ?_
   exact⟨by repeat(first|exact Sub.nil|refine Sub.cons rfl (by first|rfl|(exact pd ao)) ?_),by exact(λ_ h=>h.thin (cB.mem cz))⟩
  ·
   refine aT rfl (al rfl rfl)<|aT rfl (Rd.gtr rfl rfl rfl)<|ab rfl (aQ rfl rfl rfl)<|aG ?_
   exact⟨by repeat(first|exact Sub.nil|refine Sub.cons rfl (by first|rfl|(exact vb ao)) ?_),by exact(λ_ h=>h.thin (cB.mem cz))⟩
 ·
  refine aE rfl (λhc1=>?_) (λhc1=>?_)
  ·
   refine aD<|ar rfl<|ar rfl<|aw ?_
   refine WC.ret (Ret.two Tryz.results5 rfl rfl ?_)
   exact hk1 hc1
  ·
   obtain⟨n,rfl⟩: ∃n:Nat,nv=n:=⟨nv.toNat,by omega⟩
   refine ay<|aa<|aD<|aq rfl<|aj rfl rfl aZ an rfl rfl rfl ?_
   refine vK ?_
   refine aq rfl<|aX (ps:=[(0,_)]) rfl S37 aZ rfl rfl fy an rfl rfl rfl ?_;intro b11
   refine af rfl<|aq rfl<|aj rfl rfl aZ an rfl rfl rfl ?_
   refine Af (v:=gG) (n:=n) ao ao List.mem_cons_self ?_;intro b13
   refine ab rfl (bO (ps:=[(0,_)]) rfl Sn I63 rfl aZ fy (by apply NFo.mk;repeat(first|exact NF.nil|apply NF.cons))) ?_
   refine aq rfl<|OpW.box rfl rfl ba rfl rfl ?_;intro b15
   refine ar rfl<|ar rfl<|aw ?_
   refine WC.heap (R':=SlE (SL.one vi) (.slice none 0 0) []::R) (O':=dO b15 ⟨.slice (some ⟨b13,0,none⟩) n n,.slice none 0 0,.slice none 0 0,none⟩ (re n) O) (λw h=>by
    have g1:=Sat.lz (b:=b13) (e:=9) (size:=1) (enc:=SL.one vs) (xs:=List.replicate n gG) (m:=n) (cells:=List.replicate n (vs gG)) bh (by rw[dG,List.map_replicate]) List.length_replicate (λ_=>rfl) ao h
    have g2:=g1.dH (α:=Nat×List UInt8) (e:=113) (size:=2) (enc:=kR)
    have g3:=g2.emp (Gc none 0 (.slice none 0 0)) rfl (λ_=>trivial)
    have g4:=g3.tj (α:=Int) (enc:=SL.one vi)
    exact dj g4) ?_
   refine WC.ret (Ret.two Tryz.results5 rfl rfl ?_)
   exact hk2 n rfl ao ao b15 ⟨.slice (some ⟨b13,0,none⟩) n n,.slice none 0 0,.slice none 0 0,none⟩ ⟨⟨λ_=>rfl,λ_=>rfl⟩,bL.sl,bL.sl,bL.sl⟩
section
variable{R:List RO}{O:List Own}{POST:Value->List RO->List Own->Prop}{d:Nat}{V:DV}{s:DSt}
set_option maxRecDepth 20000 in
theorem fY(hk:POST (.int .i64 (s.aJ.length:Nat)) R (dO d V s O)):Fun Tryz.prog 19 #[dp d] R (dO d V s O) POST:=by
 refine aC (l:=[_]) Tryz.func19 rfl Tryz.ntmps19 rfl (L0:=[(0,_)]) rfl ?_
 refine aD<|ar rfl<|aw<|bd<|af rfl<|ab rfl (j3 rfl Tryz.underlying25 rfl rfl)<|aw ?_
 refine WC.cond rfl (λhc1=>?_) (λhc1=>?_)
 ·
  simp at hc1
 ·
  refine ay<|aa<|aD<|af rfl<|ab rfl (aL rfl rfl)<|ab rfl (by exact ak rfl Ez rfl rfl) ?_
  refine ab rfl (ax (off:=0) rfl C37 rfl List.mem_cons_self rfl) ?_
  refine ab rfl (by exact fB rfl rfl Tryz.underlying37 aK) ?_
  refine ar rfl<|aw<|WC.ret (Ret.one Tryz.results19 rfl ?_)
  exact hk
set_option maxRecDepth 20000 in
theorem Bh{i:Int}(hk:POST (.bool (hasB s i)) R (dO d V s O)):Fun Tryz.prog 49 #[dp d,.int .i64 i] R (dO d V s O) POST:=by
 refine aC (l:=[_,_]) Tryz.func49 rfl Tryz.ntmps49 rfl (L0:=[(0,_),(1,_)]) rfl ?_
 refine aD<|ar rfl<|a7<|af rfl<|ab rfl (Rd.geq rfl rfl rfl)<|af rfl ?_
 refine WL.case 7 rfl (λhg7=>?_) (λhg7=>?_)
 ·
  refine aT rfl (al rfl rfl)<|aT rfl (al rfl rfl)<|WL.c4 rfl rfl rfl rfl<|aj rfl rfl aZ an rfl rfl rfl ?_
  refine fY ?_
  refine aT rfl (Rd.lss rfl rfl rfl)<|ab rfl (aY rfl rfl rfl)<|ar rfl<|aw<|WC.ret (Ret.one Tryz.results49 rfl ?_)
  simpa [hasB, *] using hk
 ·
  refine aW rfl<|aW rfl<|aW rfl<|aW rfl<|ab rfl (aQ rfl rfl rfl)<|ar rfl<|aw<|WC.ret (Ret.one Tryz.results49 rfl ?_)
  simpa [hasB, *] using hk
set_option maxRecDepth 20000 in
theorem Aa(hk:POST (.bool s.off) R (dO d V s O)):Fun Tryz.prog 12 #[dp d] R (dO d V s O) POST:=by
 refine aC (l:=[_]) Tryz.func12 rfl Tryz.ntmps12 rfl (L0:=[(0,_)]) rfl ?_
 refine aD<|ar rfl<|a7<|af rfl<|ab rfl (oa rfl Tryz.underlying25 rfl rfl)<|af rfl ?_
 refine aU 5 (u:=.bool (decide True)) rfl (by simp) ?_
 refine WL.case 5 rfl (λhg5=>?_) (λhg5=>?_)
 ·
  refine aT rfl (al rfl rfl)<|aT rfl (aL rfl rfl)<|aT rfl (by exact ak rfl Aj rfl rfl) ?_
  refine aT rfl (ax (off:=3) rfl C4 rfl List.mem_cons_self rfl) ?_
  refine ab rfl (aY rfl rfl rfl)<|ar rfl<|aw<|WC.ret (Ret.one Tryz.results12 rfl ?_)
  exact hk
 ·
  exact absurd trivial hg5
set_option maxRecDepth 20000 in
theorem DN(hv:VOk V s)(hk:VOk ⟨V.lv,V.sv,V.kv,none⟩ (onS s)->POST (.tuple #[]) R (dO d ⟨V.lv,V.sv,V.kv,none⟩ (onS s) O)):Fun Tryz.prog 13 #[dp d] R (dO d V s O) POST:=by
 refine aC (l:=[_]) Tryz.func13 rfl Tryz.ntmps13 rfl (L0:=[(0,_)]) rfl ?_
 refine aD<|af rfl<|ab rfl (oa rfl Tryz.underlying25 rfl rfl)<|aw ?_
 refine WC.cond rfl (λhc1=>?_) (λhc1=>?_)
 ·
  refine aB<|af rfl<|af rfl<|ab rfl (aL rfl rfl)<|ab rfl (by exact ak rfl Aj rfl rfl) ?_
  refine aq rfl<|aV rfl Z4 rfl rfl (by exact⟨rfl,rfl⟩) bh (by(simp;done)) rfl ?_
  refine ab rfl (aL rfl rfl)<|ab rfl (by exact ak rfl tX rfl rfl) ?_
  refine aq rfl<|aV rfl Z56 rfl rfl (by exact⟨rfl,rfl⟩) bh (by(simp;done)) rfl ?_
  refine WL.heap (R':=R) (O':=dO d ⟨V.lv,V.sv,V.kv,none⟩ (onS s) O) (λw h=>by
  have g1:=h.emp (Gc none 0 V.kv) rfl (λ_=>trivial)
  exact dj g1) ?_
  refine aG<|Ret.normal (Ret.zero Tryz.results13 ?_)
  exact hk ⟨by simp[onS],hv.lv,hv.sv,hv.kv⟩
 ·
  simp at hc1
end
end Go.Proofs.YtebpkhlifcffnaaGreatDoor
namespace Go.Proofs.YtebpkhlifcffnaaGreatDoor
open Go Go.SL
section
variable{R:List RO}{O:List Own}{POST:Value->List RO->List Own->Prop}{d m:Nat}{V:DV}{s:DSt}
set_option maxHeartbeats 1000000 in
set_option maxRecDepth 20000 in
theorem iY{i:Int}(ok:DOk s 4294967296)(hk:POST (.tuple #[vs (cD s i).1,.int .i64 ((cD s i).2:Nat)]) R (dO d V s O)):Fun Tryz.prog 24 #[dp d,.int .i64 i] R (dO d V s O) POST:=by
 have hsl:=ok.since
 have hll:=ok.aJ
 refine aC (l:=[_,_]) Tryz.func24 rfl Tryz.ntmps24 rfl (L0:=[(0,_),(1,_)]) rfl ?_
 refine aD<|ar rfl<|ar rfl<|aw ?_
 refine aF<|WC.block ?_
 refine aD<|af rfl<|af rfl ?_
 refine aq rfl<|aj rfl rfl aZ an rfl rfl rfl ?_
 refine Bh ?_
 refine aU 10 (u:=.bool (decide (hasB s i=true))) rfl (by simp) ?_
 refine ab rfl (by exact iS rfl rfl) ?_
 refine ar rfl<|aw<|aE rfl (λhc1=>?_) (λhc1=>?_)
 ·
  refine aD<|ar rfl<|ar rfl<|aw ?_
  refine WC.ret (Ret.two Tryz.results24 rfl rfl ?_)
  unfold cD at hk
  rw[if_pos hc1] at hk
  exact hk
 ·
  refine aD<|af rfl<|ab rfl (aL rfl rfl)<|ab rfl (by exact ak rfl Aj rfl rfl) ?_
  refine ab rfl (ax (off:=3) rfl C4 rfl List.mem_cons_self rfl) ?_
  refine ar rfl<|aw<|WC.cond rfl (λhc2=>?_) (λhc2=>?_)
  ·
   refine aD<|ar rfl<|ar rfl<|aw ?_
   refine WC.ret (Ret.two Tryz.results24 rfl rfl ?_)
   unfold cD at hk
   rw[if_neg hc1,if_pos hc2] at hk
   exact hk
  ·
   obtain⟨h1,h2⟩:=sZ (Decidable.not_not.1 hc1)
   have hfin:cD s i=(p6 s i.toNat s.since.length,0):=by
    unfold cD
    rw[if_neg hc1,if_neg (by rw[hc2];simp)]
   rw[hfin] at hk
   refine ay<|aA<|aa<|bd<|af rfl<|ab rfl (aL rfl rfl)<|ab rfl (by exact ak rfl nS rfl rfl) ?_
   refine ab rfl (ax (off:=1) rfl C55 rfl List.mem_cons_self rfl) ?_
   refine ab rfl (fB (enc:=kR) rfl rfl Tryz.underlying55 (xs:=s.since) (e':=113) aK) ?_
   refine ab rfl (Rd.sub rfl rfl rfl ao) ?_
   refine ar rfl<|aw<|WC.block ?_
   refine WC.pick [6,0,1] eS ?_
   refine WC.lx 1 (λ(k:Nat)=>[(6,.int .i64 ((k:Int)-1))]) (λ(k:Nat)=>k<=s.since.length/\p6 s i.toNat s.since.length=p6 s i.toNat k) (λ(k:Nat)=>k) (s.since.length) iw ?hinv1 cC (λ_ h=>h) ?_
   case hinv1=>
    exact⟨Nat.le_refl _,rfl⟩
   intro k
   rintro⟨i1,i2⟩
   refine bd<|af rfl<|ab rfl (Rd.geq rfl rfl rfl)<|aw ?_
   refine aE rfl (λhc3=>?_) (λhc3=>?_)
   ·
    obtain⟨j,rfl⟩: ∃j,k=j+1:=⟨k-1,by omega⟩
    rw[tN] at i2
    refine ay<|aa<|aF<|WC.block ?_
    refine aD<|af rfl<|ab rfl (aL rfl rfl)<|ab rfl (by exact ak rfl nS rfl rfl) ?_
    refine ab rfl (ax (off:=1) rfl C55 rfl List.mem_cons_self rfl) ?_
    refine af rfl<|ab rfl (mP (k:=j) rfl S55 rfl rfl ao (enc:=kR) (xs:=s.since) (e':=113) aK ao) ?_
    refine ab rfl (xR (enc:=kR) (xs:=s.since) (e':=113) rfl Cp rfl aK ao) ?_
    refine ab rfl (BB (k:=j) (f:=0) (enc:=kR) (xs:=s.since) (e':=113) rfl C3 rfl aK (λ_=>rfl) rfl (get!_of_lt ao) rfl) ?_
    refine af rfl<|ab rfl (Rd.eql rfl rfl rfl)<|aw<|aE rfl (λhc4=>?_) (λhc4=>?_)
    ·
     refine aD<|af rfl<|ab rfl (aL rfl rfl)<|ab rfl (by exact ak rfl nS rfl rfl) ?_
     refine ab rfl (ax (off:=1) rfl C55 rfl List.mem_cons_self rfl) ?_
     refine af rfl<|ab rfl (mP (k:=j) rfl S55 rfl rfl ao (enc:=kR) (xs:=s.since) (e':=113) aK ao) ?_
     refine ab rfl (xR (enc:=kR) (xs:=s.since) (e':=113) rfl CH rfl aK ao) ?_
     refine ab rfl (BB (k:=j) (f:=1) (enc:=kR) (xs:=s.since) (e':=113) rfl C9 rfl aK (λ_=>rfl) rfl (get!_of_lt ao) rfl) ?_
     refine ar rfl<|ar rfl<|aw<|WC.ret (Ret.two Tryz.results24 rfl rfl ?_)
     rw[if_pos ao] at i2
     rw[i2] at hk
     exact hk
    ·
     refine ay<|aA<|aa<|aB<|af rfl<|ab rfl (Rd.sub rfl rfl rfl ao) ?_
     exact ar rfl<|aG<|bq.mk j ⟨by omega,by rw[if_neg ao] at i2;exact i2⟩ ao (by repeat(first|exact Sub.nil|refine Sub.cons rfl (by first|rfl|(congr 1;omega)) ?_)) bN
   ·
    obtain rfl:k=0:=by omega
    have i3:p6 s i.toNat s.since.length=s.aJ[i.toNat]! :=i2
    refine WC.exit<|au.exit<|bq.exit<|aH.exit<|aa<|aD<|af rfl<|ab rfl (aL rfl rfl)<|ab rfl (by exact ak rfl Ez rfl rfl) ?_
    refine ab rfl (ax (off:=0) rfl C37 rfl List.mem_cons_self rfl) ?_
    refine af rfl<|ab rfl (kT (k:=i.toNat) rfl S37 rfl rfl h2.symm (enc:=SL.one vs) (xs:=s.aJ) (e':=9) aK h1) ?_
    refine ab rfl (zi (k:=i.toNat) (g:=vs) (xs:=s.aJ) (e':=9) rfl C9 rfl aK (get!_of_lt h1)) ?_
    refine ar rfl<|ar rfl<|aw<|WC.ret (Ret.two Tryz.results24 rfl rfl ?_)
    rw[i3] at hk
    exact hk
set_option maxHeartbeats 1000000 in
set_option maxRecDepth 20000 in
theorem G3{keep:List Int}{kv:Value}(ok:DOk s m)(hm:m<=4294967296)(hvl:bL V.lv)(hvk:bL V.kv)(hkeep:SlE (SL.one vi) kv keep∈R)
 (hk:VOk ⟨V.lv,.slice none 0 0,V.kv,none⟩ (p9 s keep)->POST (.tuple #[]) R (dO d ⟨V.lv,.slice none 0 0,V.kv,none⟩ (p9 s keep) O)):Fun Tryz.prog 106 #[dp d,kv] R (dO d V s O) POST:=by
 refine Fun.len hkeep λhkl=>?_
 have hsl:=ok.since
 have hat: ∀k,k<s.since.length->s.since[k]!.1<s.aJ.length:=λk hk=>by
  rw[getElem!_pos s.since k hk];exact ok.at_ _ (List.getElem_mem _)
 refine aC (l:=[_,_]) Tryz.func106 rfl Tryz.ntmps106 rfl (L0:=[(0,_),(1,_)]) rfl ?_
 refine bd<|af rfl<|ab rfl (aL rfl rfl)<|ab rfl (by exact ak rfl nS rfl rfl) ?_
 refine ab rfl (ax (off:=1) rfl C55 rfl List.mem_cons_self rfl) ?_
 refine ab rfl (fB (enc:=kR) rfl rfl Tryz.underlying55 (xs:=s.since) (e':=113) aK) ?_
 refine af rfl<|aw<|WC.block ?_
 refine WC.pick [11,0,1,9,10] eS ?_
 refine WC.iJ 1 (λ(k:Nat)=>[(11,.int .i64 (k:Int))]) (λ(k:Nat)=>LH d V s::bt 9 1 (SL.one vs) V.lv (eW s.since keep s.aJ k)::bt 113 2 kR V.sv s.since::Gc V.cb s.left V.kv::O) (λ(k:Nat)=>k<=s.since.length) (λ(k:Nat)=>s.since.length-k) (0) iw ?hinv1 cC (λ_ h=>h) ?_
 case hinv1=>
  exact Nat.zero_le _
 intro k
 rintro i1
 refine aD<|ab rfl (Rd.lss rfl rfl rfl)<|aw ?_
 refine aF<|aE rfl (λhc1=>?_) (λhc1=>?_)
 ·
  have hatk:=hat k ao
  have hfl:=jf s.since keep s.aJ k
  have hfs:=iV s.since keep s.aJ k
  refine ay<|aa<|aF<|WC.block ?_
  refine aD<|af rfl<|ab rfl (mP (k:=k) rfl S55 rfl rfl rfl (enc:=kR) (xs:=s.since) (e':=113) aK ao) ?_
  refine ab rfl (qF (k:=k) (cs:=[.int .i64 (s.since[k]!.1:Int),vs s.since[k]!.2]) (enc:=kR) (xs:=s.since) (e':=113) rfl KZ rfl aK (λ_=>rfl) (get!_of_lt ao) ba) ?_
  refine aq rfl<|OpW.alloc rfl Iv rfl ba rfl rfl ?_;intro b5
  refine ar rfl<|aq rfl<|aM rfl KZ rfl rfl ba bh rfl rfl ba rfl ?_
  refine aw<|WC.pick [0,1,4,5,9,10,11] eS ?_
  refine WC.val 29 (.bool (decide (Dh keep k=true))) ?_ ?_
  ·
   refine aB<|af rfl<|ab rfl (by exact bu rfl rfl Tryz.underlying23 aK) ?_
   refine ab rfl (Rd.gtr rfl rfl rfl)<|af rfl<|WL.case 19 rfl (λhg19=>?_) (λhg19=>?_)
   ·
    refine aT rfl (al rfl rfl)<|aT rfl (al rfl rfl)<|aT rfl (al rfl rfl)<|aT rfl (by exact bu rfl rfl Tryz.underlying23 aK) ?_
    refine aT rfl (gL (a:=k) (b:=keep.length) rfl rfl rfl rfl rfl ao) ?_
    refine aT rfl (c9 (k:=k%keep.length) rfl S23 rfl rfl rfl hkeep (Nat.mod_lt _ ao)) ?_
    refine aT rfl (Rd.get (k:=k%keep.length) rfl C3 rfl hkeep (get!_of_lt (Nat.mod_lt _ ao))) ?_
    refine aT rfl (zd (m:=1) rfl rfl rfl rfl ct) ?_
    refine aT rfl (Rd.eql rfl rfl rfl)<|aU 28 (u:=.bool (decide (keep[k%keep.length]! %2=1))) rfl (by rw[RX];congr 1;rw[decide_eq_decide];omega) ?_
    refine ab rfl (aY rfl rfl rfl)<|aG ?_
    exact⟨by repeat(first|exact Sub.nil|refine Sub.cons rfl (by first|rfl|((have h9:0<keep.length:=by omega);simp[Dh,h9])) ?_),by exact(λ_ h=>h.thin (cB.mem cz))⟩
   ·
    refine aW rfl<|aW rfl<|aW rfl<|aW rfl<|aW rfl<|aW rfl<|aW rfl<|aW rfl<|aW rfl<|ab rfl (aQ rfl rfl rfl)<|aG ?_
    exact⟨by repeat(first|exact Sub.nil|refine Sub.cons rfl (by first|rfl|((have h9:keep.length=0:=by omega);simp[Dh,h9])) ?_),by exact(λ_ h=>h.thin (cB.mem cz))⟩
  ·
   refine aE rfl (λhc2=>?_) (λhc2=>?_)
   ·
    refine WC.tail 9 mixed an ?_
    refine bn rfl (al rfl rfl)<|bn rfl (aL rfl rfl)<|bn rfl (by exact ak rfl Ez rfl rfl) ?_
    refine bn rfl (ax (off:=0) rfl C37 rfl aK rfl) ?_
    refine bn rfl (by exact ak rfl Cp rfl rfl) ?_
    refine bn rfl (ax (off:=0) rfl C3 rfl List.mem_cons_self rfl) ?_
    refine bn rfl (by exact ak rfl CH rfl rfl) ?_
    refine bn rfl (ax (off:=1) rfl C9 rfl List.mem_cons_self rfl) ?_
    refine bn rfl (kT (k:=s.since[k]!.1) rfl S37 rfl rfl rfl (enc:=SL.one vs) (xs:=eW s.since keep s.aJ k) (e':=9) aK ao) ?_
    refine dm<|aq rfl<|j0 (k:=s.since[k]!.1) (a:=s.since[k]!.2) (g:=vs) rfl Z9 rfl rfl rfl rfl bh ao rfl ?_
    refine aG<|aA<|aa<|aB<|ab rfl (Rd.add rfl rfl rfl ao) ?_
    exact af rfl<|aG<|bq.mk (k+1) ao ao cC (λw h=>by rw[hfs,if_pos hc2];exact dj h)
   ·
    refine ay<|aA<|aa<|aB<|ab rfl (Rd.add rfl rfl rfl ao) ?_
    exact af rfl<|aG<|bq.mk (k+1) ao ao cC (λw h=>by rw[hfs,if_neg hc2];exact dj h)
 ·
  refine WC.exit<|au.exit<|bq.exit<|aH.exit<|aa<|aB<|af rfl<|af rfl<|af rfl<|ab rfl (aL rfl rfl)<|ab rfl (by exact ak rfl nS rfl rfl) ?_
  refine aq rfl<|aV rfl Z55 rfl rfl (by exact⟨rfl,rfl⟩) bh (by(simp;done)) rfl ?_
  refine ab rfl (aL rfl rfl)<|ab rfl (by exact ak rfl tX rfl rfl) ?_
  refine aq rfl<|aV rfl Z56 rfl rfl (by exact⟨rfl,rfl⟩) bh (by(simp;done)) rfl ?_
  refine ab rfl (aL rfl rfl)<|ab rfl (by exact ak rfl Aj rfl rfl) ?_
  refine aq rfl<|aV rfl Z4 rfl rfl (by exact⟨rfl,rfl⟩) bh (by(simp;done)) rfl ?_
  obtain rfl:k=s.since.length:=by omega
  refine WL.heap (R':=R) (O':=dO d ⟨V.lv,.slice none 0 0,V.kv,none⟩ (p9 s keep) O) (λw h=>by
   have g1:=h.emp (Gc none 0 V.kv) rfl (λ_=>trivial)
   have g2:=g1.dH (α:=Nat×List UInt8) (e:=113) (size:=2) (enc:=kR)
   exact dj g2) ?_
  refine aG<|Ret.normal (Ret.zero Tryz.results106 ?_)
  exact hk ⟨⟨λ_=>rfl,λ_=>rfl⟩,hvl,bL.sl,hvk⟩
end
end Go.Proofs.YtebpkhlifcffnaaGreatDoor
namespace Go.Proofs.YtebpkhlifcffnaaGreatDoor
open Go Go.SL
theorem wM{s:DSt}(h:s.off=true):eN s=7/\dr s=s:=by unfold eN dr;rw[if_pos h,if_pos h];exact⟨rfl,rfl⟩
theorem mN{s:DSt}(h: ¬s.off=true)(h1:s.left=1):eN s=7/\dr s=p9 s s.keep:=by unfold eN dr;rw[if_neg h,if_neg h,if_pos h1,if_pos h1];exact⟨rfl,rfl⟩
theorem jA{s:DSt}(h: ¬s.off=true)(h1: ¬s.left=1):eN s=0/\dr s={s with left:=s.left-1,done:=s.done+1}:=by unfold eN dr;rw[if_neg h,if_neg h,if_neg h1,if_neg h1];exact⟨rfl,rfl⟩
theorem oA(s:DSt):(dr s).keep=s.keep:=by
 unfold dr
 split
 ·rfl
 ·split<;>rfl
section
variable{R:List RO}{O:List Own}{POST:Value->List RO->List Own->Prop}{d m:Nat}{V:DV}{s:DSt}
set_option maxRecDepth 20000 in
theorem zL{O':List Own}{b off:Nat}{e:TypeId}{cs:List Value}{p:Int}(hT:Take (az b e cs) O O')(hc:cs[off]? =some (.int .i64 p))(hr:0<=p/\p<=4294967296)(hk:POST (.int .i64 (p+1)) R (az b e (cs.set off (.int .i64 (p+1)))::O')):Fun Tryz.prog 107 #[.pointer (some ⟨b,off,none⟩),.int .i64 1] R O POST:=by
 refine aC (l:=[_,_]) Tryz.func107 rfl Tryz.ntmps107 rfl (L0:=[(0,_),(1,_)]) rfl ?_
 refine aD<|ar rfl<|a7<|af rfl<|ab rfl (aL rfl rfl)<|ab rfl (by exact ak rfl RH rfl rfl) ?_
 refine af rfl<|aq rfl<|OpW.Fy (off:=off) (p:=p) (k:=1) rfl rfl rfl rfl Tryz.func168 an an an an hT hc ao rfl rfl ?_
 refine ar rfl<|aw<|WC.ret (Ret.one Tryz.results107 rfl ?_)
 exact hk
set_option maxHeartbeats 1000000 in
set_option maxRecDepth 20000 in
theorem wO(ok:DOk s m)(hm:m<=4294967295)(hv:VOk V s)(hkeep:SlE (SL.one vi) V.kv s.keep∈R)
 (hk: ∀V',VOk V' (dr s)->V'.kv=V.kv->POST (.int .i64 (eN s:Nat)) R (dO d V' (dr s) O)):Fun Tryz.prog 50 #[dp d] R (dO d V s O) POST:=by
 obtain⟨lv,sv,kv,cb⟩:=V
 have hdone:=ok.done
 refine aC (l:=[_]) Tryz.func50 rfl Tryz.ntmps50 rfl (L0:=[(0,_)]) rfl ?_
 refine aD<|ar rfl<|aw<|bd<|af rfl<|ab rfl (aL rfl rfl)<|ab rfl (by exact ak rfl Aj rfl rfl) ?_
 refine ab rfl (ax (off:=3) rfl C4 rfl List.mem_cons_self rfl) ?_
 refine aw<|WC.cond rfl (λhc1=>?_) (λhc1=>?_)
 ·
  refine aD<|ar rfl<|aw ?_
  refine WC.ret (Ret.one Tryz.results50 rfl ?_)
  rw[(wM hc1).1,(wM hc1).2] at hk
  exact hk _ hv rfl
 ·
  replace hc1: ¬s.off=true:=by rw[hc1];simp
  refine ay<|aa<|bd<|af rfl<|ab rfl (aL rfl rfl)<|ab rfl (by exact ak rfl tX rfl rfl) ?_
  refine ab rfl (ax (off:=2) rfl C56 rfl List.mem_cons_self rfl) ?_
  refine ab rfl (oa rfl Tryz.underlying56 rfl rfl)<|aw<|WC.cond rfl (λhc2=>?_) (λhc2=>?_)
  ·
   obtain⟨b,rfl⟩: ∃b,cb=some b:=by
    cases cb with
    |none=>simp at hc2
    |some b=>exact⟨b,rfl⟩
   have hl0:s.left≠0:=λh=>by have:=hv.cb.2 h;cases this
   have hll:=ok.left
   refine WC.heap (R':=R) (O':=LH d ⟨lv,sv,kv,some b⟩ s::bt 9 1 (SL.one vs) lv s.aJ::bt 113 2 kR sv s.since::az b 94 [.int .i64 (s.left:Int),kv]::O) (λw h=>h) ?_
   refine aD<|af rfl<|ab rfl (aL rfl rfl)<|ab rfl (by exact ak rfl tX rfl rfl) ?_
   refine ab rfl (ax (off:=2) (u:=dp b) rfl C56 rfl List.mem_cons_self rfl) ?_
   refine ab rfl (aL rfl rfl)<|ab rfl (by exact ak rfl Kx rfl rfl) ?_
   refine ab rfl (ax (b:=b) (off:=0) rfl C3 rfl aK rfl) ?_
   refine ab rfl (Rd.sub rfl rfl rfl ao) ?_
   refine aU 19 (u:=.int .i64 ((s.left-1:Nat):Int)) rfl (by congr 1;omega) ?_
   refine ab rfl (aL rfl rfl)<|ab rfl (by exact ak rfl Kx rfl rfl) ?_
   refine aq rfl<|aV rfl Z3 rfl rfl (by exact⟨rfl,rfl⟩) bh (by(simp;done)) rfl ?_
   refine a7<|af rfl<|ab rfl (aL rfl rfl)<|ab rfl (by exact ak rfl tX rfl rfl) ?_
   refine ab rfl (ax (off:=2) (u:=dp b) rfl C56 rfl aK rfl) ?_
   refine ab rfl (aL rfl rfl)<|ab rfl (by exact ak rfl Kx rfl rfl) ?_
   refine ab rfl (ax (b:=b) (off:=0) rfl C3 rfl aK rfl) ?_
   refine ab rfl (Rd.eql rfl rfl rfl)<|aw<|aE rfl (λhc3=>?_) (λhc3=>?_)
   ·
    refine aD<|af rfl<|af rfl<|ab rfl (aL rfl rfl)<|ab rfl (by exact ak rfl tX rfl rfl) ?_
    refine ab rfl (ax (off:=2) (u:=dp b) rfl C56 rfl aK rfl) ?_
    refine ab rfl (aL rfl rfl)<|ab rfl (by exact ak rfl RW rfl rfl) ?_
    refine ab rfl (ax (b:=b) (off:=1) rfl C23 rfl aK rfl) ?_
    refine aq rfl<|aj rfl rfl aZ an rfl rfl rfl ?_
    refine Fun.heap (R':=R) (O':=dO d ⟨lv,sv,kv,some b⟩ {s with left:=s.left-1} O) bN ?_
    refine G3 (s:={s with left:=s.left-1}) (m:=m) (keep:=s.keep) ⟨ok.at_,ok.aJ,by show s.left-1<=_;omega,ok.since,ok.done⟩ ao hv.lv hv.kv hkeep ?_;intro hv2
    refine a7<|ar rfl<|aw ?_
    refine WC.ret (Ret.one Tryz.results50 rfl ?_)
    rw[(mN hc1 ao).1,(mN hc1 ao).2] at hk
    exact hk ⟨lv,.slice none 0 0,kv,none⟩ hv2 rfl
   ·
    refine ay<|aa<|aD<|af rfl<|ab rfl (aL rfl rfl)<|ab rfl (by exact ak rfl NC rfl rfl) ?_
    refine aq rfl<|aj rfl rfl aZ an rfl rfl rfl ?_
    refine zL (b:=d) (off:=4) (p:=s.done) bh rfl ao ?_
    first
     |refine WL.heap (R':=R) (O':=dO d ⟨lv,sv,kv,some b⟩ {s with left:=s.left-1,done:=s.done+1} O) bN ?_
     |refine WL.heap (R':=R) (O':=dO d ⟨lv,sv,kv,none⟩ {s with left:=s.left-1,done:=s.done+1} O) bN ?_
    refine a7<|ar rfl<|aw ?_
    refine WC.ret (Ret.one Tryz.results50 rfl ?_)
    rw[(jA hc1 ao).1,(jA hc1 ao).2] at hk
    exact hk ⟨lv,sv,kv,some b⟩ ⟨⟨λh=>(nomatch h),λh=>by exfalso;have h2:s.left-1=0:=h;omega⟩,hv.lv,hv.sv,hv.kv⟩ rfl
  ·
   obtain rfl:cb=none:=by
    cases cb with
    |none=>rfl
    |some b=>simp at hc2
   have hl0:s.left=0:=hv.cb.1 rfl
   refine ay<|aa<|aD<|af rfl<|ab rfl (aL rfl rfl)<|ab rfl (by exact ak rfl NC rfl rfl) ?_
   refine aq rfl<|aj rfl rfl aZ an rfl rfl rfl ?_
   refine zL (b:=d) (off:=4) (p:=s.done) bh rfl ao ?_
   first
    |refine WL.heap (R':=R) (O':=dO d ⟨lv,sv,kv,some b⟩ {s with left:=s.left-1,done:=s.done+1} O) bN ?_
    |refine WL.heap (R':=R) (O':=dO d ⟨lv,sv,kv,none⟩ {s with left:=s.left-1,done:=s.done+1} O) bN ?_
   refine a7<|ar rfl<|aw ?_
   refine WC.ret (Ret.one Tryz.results50 rfl ?_)
   rw[(jA hc1 ao).1,(jA hc1 ao).2] at hk
   exact hk ⟨lv,sv,kv,none⟩ ⟨⟨λ_=>by show s.left-1=0;omega,λ_=>rfl⟩,hv.lv,hv.sv,hv.kv⟩ rfl
set_option maxHeartbeats 1000000 in
set_option maxRecDepth 20000 in
theorem iW{i:Int}{dd:List UInt8}(ok:DOk s m)(hm:m<=4294967294)(hv:VOk V s)(hkeep:SlE (SL.one vi) V.kv s.keep∈R)
 (hk: ∀V',VOk V' (eL s i dd)->V'.kv=V.kv->POST (.int .i64 (eM s i dd:Nat)) R (dO d V' (eL s i dd) O)):Fun Tryz.prog 22 #[dp d,.int .i64 i,vs dd] R (dO d V s O) POST:=by
 have okp:=ok.step
 have hsl:=ok.since
 have hsl2:=okp.since
 refine aC (l:=[_,_,_]) Tryz.func22 rfl Tryz.ntmps22 rfl (L0:=[(0,_),(1,_),(2,_)]) rfl ?_
 refine aD<|ar rfl<|aw ?_
 refine aF<|WC.pick [0,1,2] eS ?_
 refine WC.val 16 (.bool (decide (qW s i dd=true))) ?_ ?_
 ·
  refine aB<|af rfl<|af rfl<|aq rfl<|aj rfl rfl aZ an rfl rfl rfl ?_
  refine Bh ?_
  refine aU 10 (u:=.bool (decide (hasB s i=true))) rfl (by simp) ?_
  refine ab rfl (by exact iS rfl rfl) ?_
  refine af rfl<|WL.case 12 rfl (λhg12=>?_) (λhg12=>?_)
  ·
   refine aW rfl<|aW rfl<|aW rfl<|ab rfl (aY rfl rfl rfl)<|aG ?_
   exact⟨by repeat(first|exact Sub.nil|refine Sub.cons rfl (by first|rfl|((simp[qW, *];done))) ?_),by exact(λ_ h=>h.thin (cB.mem cz))⟩
  ·
   refine aT rfl (al rfl rfl)<|aT rfl (cg (ts:=#[]) (ty:=0) rfl rfl Tryz.underlying9) ?_
   refine aT rfl (Rd.gtr rfl rfl rfl)<|ab rfl (aQ rfl rfl rfl)<|aG ?_
   exact⟨by repeat(first|exact Sub.nil|refine Sub.cons rfl (by first|rfl|((simp[qW, *];omega))) ?_),by exact(λ_ h=>h.thin (cB.mem cz))⟩
 ·
  refine aE rfl (λhc1=>?_) (λhc1=>?_)
  ·
   refine aD<|ar rfl<|aw ?_
   refine WC.ret (Ret.one Tryz.results22 rfl ?_)
   unfold eL eM at hk
   rw[if_pos hc1,if_pos hc1] at hk
   exact hk V hv rfl
  ·
   obtain⟨hb1,hb2⟩:=yy hc1
   obtain⟨hb3,hb4⟩:=sZ hb1
   obtain⟨n,rfl⟩: ∃n:Nat,i=n:=⟨_,hb4.symm⟩
   unfold eL eM at hk
   rw[if_neg hc1,if_neg hc1] at hk
   refine ay<|aa<|bd<|af rfl ?_
   refine aq rfl<|aj rfl rfl aZ an rfl rfl rfl ?_
   refine wO ok ao hv hkeep ?_;intro V1 hv1 hkv1
   refine ar rfl<|a7<|af rfl<|ab rfl (Rd.neq rfl rfl rfl)<|aw<|aE rfl (λhc2=>?_) (λhc2=>?_)
   ·
    refine aD<|af rfl<|ar rfl<|aw ?_
    refine WC.ret (Ret.one Tryz.results22 rfl ?_)
    rw[if_neg ao] at hk
    exact hk V1 hv1 hkv1
   ·
    rw[if_pos ao] at hk
    refine ay<|aa<|aF<|WC.drawn (O) 14 rfl mixed ?_
    refine ae 0 rfl an aN rfl rfl rfl (al rfl rfl) ?_
    refine ae 1 rfl an aN rfl rfl rfl (al rfl rfl) ?_
    refine ae 2 rfl an aN rfl rfl rfl (aL rfl rfl) ?_
    refine ae 3 rfl an aN rfl rfl rfl ((by exact ak rfl nS rfl rfl)) ?_
    refine ae 5 rfl an aN rfl rfl rfl (al rfl rfl) ?_
    refine ae 6 rfl an aN rfl rfl rfl (al rfl rfl) ?_
    refine WD.two 4 7 rfl rfl an rfl rfl ?_ ?_
    ·
     refine OpW.rd rfl rfl (ax (off:=1) rfl C55 rfl aK rfl) ?_
     refine⟨aN,?_⟩
     refine aS 7 rfl an rfl ?_
     refine aj rfl rfl aZ an rfl rfl rfl ?_
     refine xA hb2 ?_
     refine⟨aN,?_⟩
     refine ae 8 rfl an aN rfl rfl rfl (bO (ps:=[(0,_),(1,_)]) rfl NO Iv rfl aZ fy (by apply NFo.mk;repeat(first|exact NF.nil|apply NF.cons))) ?_
     refine aS 9 rfl an rfl ?_
     refine aX (ps:=[(0,_)]) rfl S55 aZ rfl rfl fy an rfl rfl rfl ?_;intro b31
     refine⟨aN,?_⟩
     refine aS 10 rfl an rfl ?_
     refine bR (enc:=kR) rfl S55 rfl rfl bh bh [(n,bF dd)] rfl (by rfl) rfl ie ie (by exact⟨by simp only[maxLen,List.length_append,List.length_nil,List.length_cons,List.length_drop,List.length_take,List.length_map];omega,by omega⟩) rfl rfl ?_;intro v32 hv32
     refine⟨aN,?_⟩
     refine ae 11 rfl an aN rfl rfl rfl (aL rfl rfl) ?_
     refine ae 12 rfl an aN rfl rfl rfl ((by exact ak rfl nS rfl rfl)) ?_
     refine aS 13 rfl an rfl ?_
     refine aV rfl Z55 rfl rfl (by assumption) bh (by(simp;done)) rfl ?_
     refine⟨aN,?_⟩
     refine WD.heap (R':=R) (O':=dO d ⟨V1.lv,v32,V1.kv,V1.cb⟩ {dr s with since:=(dr s).since++[(n,bF dd)]} O) bN ?_
     refine WD.done an ?_
     refine aa<|aD<|ar rfl<|aw ?_
     refine WC.ret (Ret.one Tryz.results22 rfl ?_)
     rw[show eN s=0 from by omega] at hk
     exact hk ⟨V1.lv,v32,V1.kv,V1.cb⟩ ⟨hv1.cb,hv1.lv,hv32,hv1.kv⟩ hkv1
    ·
     refine aj rfl rfl aZ an rfl rfl rfl ?_
     refine xA hb2 ?_
     refine⟨aN,?_⟩
     refine ae 8 rfl an aN rfl rfl rfl (bO (ps:=[(0,_),(1,_)]) rfl NO Iv rfl aZ fy (by apply NFo.mk;repeat(first|exact NF.nil|apply NF.cons))) ?_
     refine WD.two 4 9 rfl rfl an rfl rfl ?_ ?_
     ·
      refine OpW.rd rfl rfl (ax (off:=1) rfl C55 rfl aK rfl) ?_
      refine⟨aN,?_⟩
      refine aS 9 rfl an rfl ?_
      refine aX (ps:=[(0,_)]) rfl S55 aZ rfl rfl fy an rfl rfl rfl ?_;intro b31
      refine⟨aN,?_⟩
      refine aS 10 rfl an rfl ?_
      refine bR (enc:=kR) rfl S55 rfl rfl bh bh [(n,bF dd)] rfl (by rfl) rfl ie ie (by exact⟨by simp only[maxLen,List.length_append,List.length_nil,List.length_cons,List.length_drop,List.length_take,List.length_map];omega,by omega⟩) rfl rfl ?_;intro v32 hv32
      refine⟨aN,?_⟩
      refine ae 11 rfl an aN rfl rfl rfl (aL rfl rfl) ?_
      refine ae 12 rfl an aN rfl rfl rfl ((by exact ak rfl nS rfl rfl)) ?_
      refine aS 13 rfl an rfl ?_
      refine aV rfl Z55 rfl rfl (by assumption) bh (by(simp;done)) rfl ?_
      refine⟨aN,?_⟩
      refine WD.heap (R':=R) (O':=dO d ⟨V1.lv,v32,V1.kv,V1.cb⟩ {dr s with since:=(dr s).since++[(n,bF dd)]} O) bN ?_
      refine WD.done an ?_
      refine aa<|aD<|ar rfl<|aw ?_
      refine WC.ret (Ret.one Tryz.results22 rfl ?_)
      rw[show eN s=0 from by omega] at hk
      exact hk ⟨V1.lv,v32,V1.kv,V1.cb⟩ ⟨hv1.cb,hv1.lv,hv32,hv1.kv⟩ hkv1
     ·
      refine aX (ps:=[(0,_)]) rfl S55 aZ rfl rfl fy an rfl rfl rfl ?_;intro b31
      refine⟨aN,?_⟩
      refine aS 4 rfl an rfl ?_
      refine OpW.rd rfl rfl (ax (off:=1) rfl C55 rfl aK rfl) ?_
      refine⟨aN,?_⟩
      refine aS 10 rfl an rfl ?_
      refine bR (enc:=kR) rfl S55 rfl rfl bh bh [(n,bF dd)] rfl (by rfl) rfl ie ie (by exact⟨by simp only[maxLen,List.length_append,List.length_nil,List.length_cons,List.length_drop,List.length_take,List.length_map];omega,by omega⟩) rfl rfl ?_;intro v32 hv32
      refine⟨aN,?_⟩
      refine ae 11 rfl an aN rfl rfl rfl (aL rfl rfl) ?_
      refine ae 12 rfl an aN rfl rfl rfl ((by exact ak rfl nS rfl rfl)) ?_
      refine aS 13 rfl an rfl ?_
      refine aV rfl Z55 rfl rfl (by assumption) bh (by(simp;done)) rfl ?_
      refine⟨aN,?_⟩
      refine WD.heap (R':=R) (O':=dO d ⟨V1.lv,v32,V1.kv,V1.cb⟩ {dr s with since:=(dr s).since++[(n,bF dd)]} O) bN ?_
      refine WD.done an ?_
      refine aa<|aD<|ar rfl<|aw ?_
      refine WC.ret (Ret.one Tryz.results22 rfl ?_)
      rw[show eN s=0 from by omega] at hk
      exact hk ⟨V1.lv,v32,V1.kv,V1.cb⟩ ⟨hv1.cb,hv1.lv,hv32,hv1.kv⟩ hkv1
set_option maxHeartbeats 1000000 in
set_option maxRecDepth 20000 in
theorem lK(ok:DOk s m)(hm:m<=4294967294)(hv:VOk V s)(hkeep:SlE (SL.one vi) V.kv s.keep∈R)
 (hk: ∀V',VOk V' (ek s)->V'.kv=V.kv->POST (.int .i64 (eN s:Nat)) R (dO d V' (ek s) O)):Fun Tryz.prog 23 #[dp d] R (dO d V s O) POST:=by
 have okp:=ok.step
 have hsl2:=okp.since
 have hat: ∀k,k<(dr s).since.length->(dr s).since[k]!.1<(dr s).aJ.length:=λk hk=>by
  rw[getElem!_pos _ k hk];exact okp.at_ _ (List.getElem_mem _)
 obtain⟨s2,hs2⟩: ∃s2,s2=dr s:=⟨_,rfl⟩
 rw[←hs2] at hat
 refine aC (l:=[_]) Tryz.func23 rfl Tryz.ntmps23 rfl (L0:=[(0,_)]) rfl ?_
 refine aD<|ar rfl<|aw<|bd<|af rfl<|ab rfl (j3 rfl Tryz.underlying25 rfl rfl)<|aw ?_
 refine WC.cond rfl (λhc1=>?_) (λhc1=>?_)
 ·
  simp at hc1
 ·
  refine ay<|aa<|bd<|af rfl ?_
  refine aq rfl<|aj rfl rfl aZ an rfl rfl rfl ?_
  refine wO ok ao hv hkeep ?_;intro V1 hv1 hkv1
  refine ar rfl<|a7<|af rfl<|ab rfl (Rd.neq rfl rfl rfl)<|aw<|aE rfl (λhc2=>?_) (λhc2=>?_)
  ·
   refine aD<|af rfl<|ar rfl<|aw ?_
   refine WC.ret (Ret.one Tryz.results23 rfl ?_)
   unfold ek at hk
   rw[if_neg ao] at hk
   exact hk V1 hv1 hkv1
  ·
   unfold ek at hk
   rw[if_pos ao] at hk
   rw[←hs2] at hk hsl2 hv1
   rw[←hs2]
   refine ay<|aa<|bd<|af rfl<|ab rfl (aL rfl rfl)<|ab rfl (by exact ak rfl nS rfl rfl) ?_
   refine ab rfl (ax (off:=1) rfl C55 rfl List.mem_cons_self rfl) ?_
   refine ab rfl (fB (enc:=kR) rfl rfl Tryz.underlying55 (xs:=s2.since) (e':=113) aK) ?_
   refine af rfl<|aw<|WC.block ?_
   refine WC.pick [18,0,16,17] eS ?_
   refine WC.iJ 1 (λ(k:Nat)=>[(18,.int .i64 (k:Int))]) (λ(k:Nat)=>LH d V1 s2::bt 9 1 (SL.one vs) V1.lv (eW s2.since [1] s2.aJ k)::bt 113 2 kR V1.sv s2.since::Gc V1.cb s2.left V1.kv::O) (λ(k:Nat)=>k<=s2.since.length) (λ(k:Nat)=>s2.since.length-k) (0) iw ?hinv1 cC (λ_ h=>h) ?_
   case hinv1=>
    exact Nat.zero_le _
   intro k
   rintro i1
   refine aD<|ab rfl (Rd.lss rfl rfl rfl)<|aw ?_
   refine aF<|aE rfl (λhc3=>?_) (λhc3=>?_)
   ·
    have hatk:=hat k ao
    have hfl:=jf s2.since [1] s2.aJ k
    have hfs:=iV s2.since [1] s2.aJ k
    rw[if_pos (El k)] at hfs
    refine ay<|aa<|aF<|WC.block ?_
    refine aD<|ab rfl (mP (k:=k) rfl S55 rfl rfl rfl (enc:=kR) (xs:=s2.since) (e':=113) aK ao) ?_
    refine ab rfl (qF (k:=k) (cs:=[.int .i64 (s2.since[k]!.1:Int),vs s2.since[k]!.2]) (enc:=kR) (xs:=s2.since) (e':=113) rfl KZ rfl aK (λ_=>rfl) (get!_of_lt ao) ba) ?_
    refine aq rfl<|OpW.alloc rfl Iv rfl ba rfl rfl ?_;intro b5
    refine aq rfl<|aM rfl KZ rfl rfl ba bh rfl rfl ba rfl ?_
    refine aw<|WC.tail 9 mixed an ?_
    refine bn rfl (al rfl rfl)<|bn rfl (aL rfl rfl)<|bn rfl (by exact ak rfl Ez rfl rfl) ?_
    refine bn rfl (ax (off:=0) rfl C37 rfl aK rfl) ?_
    refine bn rfl (by exact ak rfl Cp rfl rfl) ?_
    refine bn rfl (ax (off:=0) rfl C3 rfl List.mem_cons_self rfl) ?_
    refine bn rfl (by exact ak rfl CH rfl rfl) ?_
    refine bn rfl (ax (off:=1) rfl C9 rfl List.mem_cons_self rfl) ?_
    refine bn rfl (kT (k:=s2.since[k]!.1) rfl S37 rfl rfl rfl (enc:=SL.one vs) (xs:=eW s2.since [1] s2.aJ k) (e':=9) aK ao) ?_
    refine dm<|aq rfl<|j0 (k:=s2.since[k]!.1) (a:=s2.since[k]!.2) (g:=vs) rfl Z9 rfl rfl rfl rfl bh ao rfl ?_
    refine aG<|aA<|aa<|aB<|ab rfl (Rd.add rfl rfl rfl ao) ?_
    exact af rfl<|aG<|bq.mk (k+1) ao ao cC (λw h=>by rw[hfs];exact dj h)
   ·
    refine WC.exit<|au.exit<|bq.exit<|aH.exit<|aa<|aD<|af rfl<|ab rfl (aL rfl rfl)<|ab rfl (by exact ak rfl nS rfl rfl) ?_
    refine aq rfl<|aV rfl Z55 rfl rfl (by exact⟨rfl,rfl⟩) bh (by(simp;done)) rfl ?_
    obtain rfl:k=s2.since.length:=by omega
    refine WL.heap (R':=R) (O':=dO d ⟨V1.lv,.slice none 0 0,V1.kv,V1.cb⟩ {s2 with aJ:=eW s2.since [1] s2.aJ s2.since.length,since:=[]} O) (λw h=>by
     have g2:=h.dH (α:=Nat×List UInt8) (e:=113) (size:=2) (enc:=kR)
     exact dj g2) ?_
    refine a7<|ar rfl<|aw ?_
    refine WC.ret (Ret.one Tryz.results23 rfl ?_)
    rw[show eN s=0 from by omega] at hk
    exact hk ⟨V1.lv,.slice none 0 0,V1.kv,V1.cb⟩ ⟨hv1.cb,hv1.lv,bL.sl,hv1.kv⟩ hkv1
set_option maxRecDepth 20000 in
theorem AM{xs:List Int}{av:Value}(ha:SlE (SL.one vi) av xs∈R)(hb:xs.length<=17592186043904)(hk: ∀v,bL v->POST v R (bt 3 1 (SL.one vi) v xs::O)):Fun Tryz.prog 35 #[av] R O POST:=by
 refine Fun.oR (φ:= ∃a c,av= .slice a xs.length c/\(a=none->xs.length=0)) ha (λw h=>by
  obtain⟨a,c,h1,_,_,h2,_⟩:=h
  exact⟨a,c,h1,h2⟩) ?_
 rintro⟨a,c,rfl,hn⟩
 refine aC (l:=[_]) Tryz.func35 rfl Tryz.ntmps35 rfl (L0:=[(0,_)]) rfl ?_
 refine aD<|ar rfl<|aw<|bd<|af rfl<|ab rfl (mf rfl Tryz.underlying23 rfl rfl)<|aw ?_
 refine WC.cond rfl (λhc1=>?_) (λhc1=>?_)
 ·
  refine aD<|ar rfl<|aw ?_
  obtain rfl:xs=[]:=List.length_eq_zero_iff.1 (hn (by simpa using hc1))
  refine WC.heap (λw h=>h.dH (α:=Int) (e:=3) (size:=1) (enc:=SL.one vi)) ?_
  refine WC.ret (Ret.one Tryz.results35 rfl ?_)
  exact hk _ bL.sl
 ·
  refine ay<|aa<|aD<|aq rfl<|aX (ps:=[]) rfl S23 aZ rfl rfl fy an rfl rfl rfl ?_;intro b5
  refine af rfl<|WL.heap (λw h=>h.lz (α:=Int) (enc:=SL.one vi) (xs:=[]) bh rfl rfl (λ_=>rfl) (Nat.zero_le _)) ?_
  refine aq rfl<|c7 (enc:=SL.one vi) rfl S23 Tryz.underlying23 rfl rfl bh aK ie ie (by exact⟨by simp only[maxLen,List.length_append,List.length_nil,List.length_cons,List.length_drop,List.length_take,List.length_map];omega,by(simp only[List.length_append,List.length_nil,List.length_cons,List.length_drop,List.length_take,List.length_map];omega)⟩) rfl rfl ?_;intro v7 hv7
  refine ar rfl<|aw<|WC.ret (Ret.one Tryz.results35 rfl ?_)
  exact hk _ hv7
set_option maxRecDepth 20000 in
set_option maxHeartbeats 1000000 in
theorem JR{n:Int}{keep:List Int}{kv:Value}(hv:VOk V s)(hkeep:SlE (SL.one vi) kv keep∈R)(hkl:keep.length<=17592186043904)
 (hk: ∀V',VOk V' (vZ s n keep)->POST (.tuple #[]) (SlE (SL.one vi) V'.kv keep::R) (dO d V' (vZ s n keep) O)):Fun Tryz.prog 10 #[dp d,.int .i64 n,kv] R (dO d V s O) POST:=by
 refine aC (l:=[_,_,_]) Tryz.func10 rfl Tryz.ntmps10 rfl (L0:=[(0,_),(1,_),(2,_)]) rfl ?_
 refine aD<|af rfl<|ab rfl (oa rfl Tryz.underlying25 rfl rfl)<|aw ?_
 refine WC.cond rfl (λhc1=>?_) (λhc1=>?_)
 ·
  refine aB<|af rfl<|af rfl<|ab rfl (qE rfl rfl rfl)<|aU 10 (u:=.int .i64 (((max n 1).toNat:Nat):Int)) rfl (by congr 1;split<;>omega) ?_
  refine af rfl<|aq rfl<|aj rfl rfl aZ an rfl rfl rfl ?_
  refine AM (xs:=keep) hkeep hkl ?_;intro v12 hv12
  refine WL.heap (λw h=>Sat.eE (Take.head _) h) ?_
  refine ab rfl (bO (ps:=[(0,_),(1,_)]) (cells:=[.int .i64 (((max n 1).toNat:Nat):Int),v12]) rfl Sh I94 rfl aZ (by exact cG.cons rfl (cG.cons hv12.cells cG.nil)) (by apply NFo.mk;repeat(first|exact NF.nil|apply NF.cons))) ?_
  refine aq rfl<|OpW.box rfl rfl ba rfl rfl ?_;intro b14
  refine ab rfl (aL rfl rfl)<|ab rfl (by exact ak rfl tX rfl rfl) ?_
  refine aq rfl<|aV rfl Z56 rfl rfl (by exact⟨rfl,rfl⟩) bh (by(simp;done)) rfl ?_
  refine WL.heap (R':=SlE (SL.one vi) v12 keep::R) (O':=dO d ⟨V.lv,V.sv,v12,some b14⟩ (vZ s n keep) O) bN ?_
  refine aG<|Ret.normal (Ret.zero Tryz.results10 ?_)
  exact hk ⟨V.lv,V.sv,v12,some b14⟩ ⟨⟨λh=>(nomatch h),λh=>by exfalso;have h2:(max n 1).toNat=0:=h;omega⟩,hv.lv,hv.sv,hv12⟩
 ·
  simp at hc1
end
end Go.Proofs.YtebpkhlifcffnaaGreatDoor



namespace Go.Proofs.YtebpkhlifcffnaaGreatDoor
open Go Go.SL
abbrev Chg:=Int×List UInt8
def jM(x:Chg):List Value:=[.int .i64 x.1,vs x.2]
def byteOf(n:Nat):UInt8:=UInt8.ofNat (n%256)
def hdB(x:List Chg):List UInt8:=[87,76,byteOf x.length]++x.flatMap λc=>[byteOf (c.1.toNat/256),byteOf c.1.toNat]
def gu(x:List Chg):List UInt8:=hdB x++x.flatMap λc=>bF c.2
def cR(x:List Chg):List UInt8:=hdB x++le4 (dx (gu x))
def eY:DSt->List Chg->DSt×Nat
 |s,[]=>(s,0)
 |s,c::r=>if eM s c.1 c.2≠0 then(eL s c.1 c.2,eM s c.1 c.2) else eY (eL s c.1 c.2) r
def cJ(p:DSt×Nat)(f:DSt->DSt×Nat):DSt×Nat:=if p.2≠0 then p else f p.1
def cF(s:DSt)(x:List Chg):DSt×Nat:=cJ (eY s x) λt=>(ek t,eN t)
def jI(s:DSt)(f:Int)(h:List UInt8):DSt×Nat:=cF s [(f,h)]
def jd(s:DSt)(f z i:Int):Bool:=decide (0<=i/\i<(s.aJ.length:Int)/\ ¬(f<=i/\i<f+z))
def fS(s:DSt)(f z:Int):Bool:=decide (0<=f/\2<=z/\z<=65/\f+z<=(s.aJ.length:Int))
def I2(s:DSt)(f:Int)(h:List UInt8)(i:Nat):Chg:=(((h[3+2*i]!.toNat*256+h[4+2*i]!.toNat:Nat):Int),(cD s (f+1+i)).1)
def na(s:DSt)(f:Int)(h:List UInt8)(n:Nat):List Chg:=(List.range n).map (I2 s f h)
def gk(s:DSt)(f z:Int):List Chg×Nat:=
 if(cD s f).2≠0 then([],(cD s f).2)
 else if(cD s f).1.take 2≠ [87,76]∨(cD s f).1[2]!.toNat<1∨z<=((cD s f).1[2]!.toNat:Int) then([],0)
 else if ¬ ∀c∈na s f (cD s f).1 (cD s f).1[2]!.toNat,jd s f z c.1=true then([],0)
 else if(cD s f).1≠bF (cR (na s f (cD s f).1 (cD s f).1[2]!.toNat)) then([],0)
 else(na s f (cD s f).1 (cD s f).1[2]!.toNat,0)
def k6(s:DSt)(f:Int)(x:List Chg):DSt×Nat:=cJ (cF s x) λt=>jI t f []
def cE(s:DSt)(f z:Int):DSt×Nat×Nat:=
 if ¬fS s f z then(s,0,1)
 else if(gk s f z).2≠0 then(s,0,(gk s f z).2)
 else if(gk s f z).1=[] then(s,0,0)
 else if(k6 s f (gk s f z).1).2≠0 then((k6 s f (gk s f z).1).1,0,(k6 s f (gk s f z).1).2)
 else((k6 s f (gk s f z).1).1,(gk s f z).1.length,0)
def iF(f:Int)(x:List Chg):List Chg:=x.zipIdx.map λp=>(f+1+(p.2:Int),p.1.2)
def tl(s:DSt)(f z:Int)(c:Chg):Bool:=decide (¬jd s f z c.1=true∨512<c.2.length)
def cf(s:DSt)(f z:Int)(x:List Chg):DSt×Nat:=
 if x=[]∨z<=(x.length:Int) then(s,1)
 else if ∃c∈x,tl s f z c=true then(s,1)
 else cJ (cF s (iF f x)) λt=>cJ (jI t f (cR x)) λt=>k6 t f x
structure iL(s:DSt):Prop where
 aJ: ∀l∈s.aJ,l.length=512
 since: ∀w∈s.since,w.2.length=512
theorem iL.new{n:Nat}:iL (re n):=⟨λl hl=>by rw[List.eq_of_mem_replicate hl];exact List.length_replicate,λw hw=>absurd hw List.not_mem_nil⟩
theorem iL.eW{s:DSt}(h:iL s)(keep:List Int): ∀n,n<=s.since.length-> ∀l∈Go.Proofs.YtebpkhlifcffnaaGreatDoor.eW s.since keep s.aJ n,l.length=512
 |0,_=>h.aJ
 |n+1,hn=>by
  rw[iV]
  have ih:=iL.eW h keep n ao
  split
  ·intro l hl
   rcases List.mem_or_eq_of_mem_set hl with h1|h1
   ·exact ih l h1
   ·rw[h1,getElem!_pos s.since n ao];exact h.since _ (List.getElem_mem _)
  ·exact ih
theorem iL.fail{s:DSt}(h:iL s)(keep:List Int):iL (p9 s keep):=⟨h.eW keep _ (Nat.le_refl _),λw hw=>absurd hw List.not_mem_nil⟩
theorem iL.step{s:DSt}(h:iL s):iL (dr s):=by
 unfold dr
 split
 ·exact h
 ·split
  ·exact h.fail _
  ·exact⟨h.aJ,h.since⟩
theorem iL.put{s:DSt}(h:iL s)(i:Int)(d:List UInt8):iL (eL s i d):=by
 unfold eL
 split
 ·exact h
 ·rename_i hb
  split
  ·refine⟨h.step.aJ,λw hw=>?_⟩
   rcases List.mem_append.1 hw with hw|hw
   ·exact h.step.since w hw
   ·rw[List.mem_singleton] at hw;subst hw;exact fH (yy hb).2
  ·exact h.step
theorem iL.sync{s:DSt}(h:iL s):iL (ek s):=by
 unfold ek
 split
 ·exact⟨h.step.eW [1] _ (Nat.le_refl _),λw hw=>absurd hw List.not_mem_nil⟩
 ·exact h.step
theorem iL.cut{s:DSt}(h:iL s)(n:Int)(keep:List Int):iL (vZ s n keep):=⟨h.aJ,h.since⟩
theorem iL.on{s:DSt}(h:iL s):iL (onS s):=⟨h.aJ,h.since⟩
theorem iL.look{s:DSt}(h:iL s){n:Nat}(hn:n<s.aJ.length): ∀k,k<=s.since.length->(p6 s n k).length=512
 |0,_=>by show(s.aJ[n]!).length=512;rw[getElem!_pos s.aJ n hn];exact h.aJ _ (List.getElem_mem _)
 |k+1,hk=>by
  rw[tN]
  split
  ·rw[getElem!_pos s.since k ao];exact h.since _ (List.getElem_mem _)
  ·exact iL.look h hn k ao
theorem yc{s:DSt}(h:iL s){i:Int}(h0:(cD s i).2=0):(cD s i).1.length=512/\hasB s i=true/\s.off=false:=by
 unfold cD at h0⊢
 by_cases h1:hasB s i=true
 ·rw[if_neg (λhh=>hh h1)] at h0⊢
  by_cases h2:s.off=true
  ·rw[if_pos h2] at h0;simp at h0
  ·rw[if_neg h2]
   exact⟨h.look (sZ h1).1 _ (Nat.le_refl _),h1,by simpa using h2⟩
 ·rw[if_pos h1] at h0;simp at h0
theorem J4{s:DSt}{i:Int}(h1:hasB s i=true)(h2:s.off=false):(cD s i).2=0:=by
 unfold cD
 rw[if_neg (λhh=>hh h1),if_neg (by rw[h2];exact Bool.false_ne_true)]
theorem oG(s:DSt)(i:Int)(d:List UInt8):(eL s i d).aJ.length=s.aJ.length:=by
 unfold eL
 split
 ·rfl
 ·split
  ·exact kH s
  ·exact kH s
theorem tw(s:DSt):(ek s).aJ.length=s.aJ.length:=by
 unfold ek
 split
 ·show(eW _ _ _ _).length=_;rw[jf];exact kH s
 ·exact kH s
theorem hZ(s:DSt)(i:Int)(d:List UInt8):(eL s i d).keep=s.keep:=by
 unfold eL
 split
 ·rfl
 ·split
  ·exact oA s
  ·exact oA s
theorem vA(s:DSt):(ek s).keep=s.keep:=by
 unfold ek
 split
 ·exact oA s
 ·exact oA s
structure Dk(s:DSt)(m:Nat):Prop where
 ok:DOk s m
 w:iL s
theorem Dk.put{s:DSt}{m:Nat}(h:Dk s m)(i:Int)(d:List UInt8):Dk (eL s i d) (m+1):=⟨h.ok.put i d,h.w.put i d⟩
theorem Dk.sync{s:DSt}{m:Nat}(h:Dk s m):Dk (ek s) (m+1):=⟨h.ok.sync,h.w.sync⟩
theorem Dk.mono{s:DSt}{m m':Nat}(h:Dk s m)(hm:m<=m'):Dk s m':=⟨h.ok.mono hm,h.w⟩
theorem vH: ∀{x:List Chg} {s:DSt} {m:Nat},Dk s m->Dk (eY s x).1 (m+x.length)/\(eY s x).1.aJ.length=s.aJ.length/\(eY s x).1.keep=s.keep
 | [],s,m,h=>⟨h,rfl,rfl⟩
 |c::r,s,m,h=>by
  rw[eY,List.length_cons]
  split
  ·exact⟨(h.put _ _).mono ao,oG _ _ _,hZ _ _ _⟩
  ·obtain⟨h1,h2,h3⟩:=vH (x:=r) (h.put c.1 c.2)
   exact⟨h1.mono ao,h2.trans (oG _ _ _),h3.trans (hZ _ _ _)⟩
theorem iK{x:List Chg}{s:DSt}{m:Nat}(h:Dk s m):Dk (cF s x).1 (m+x.length+1)/\(cF s x).1.aJ.length=s.aJ.length/\(cF s x).1.keep=s.keep:=by
 obtain⟨h1,h2,h3⟩:=vH (x:=x) h
 unfold cF cJ
 split
 ·exact⟨h1.mono ao,h2,h3⟩
 ·exact⟨h1.sync,(tw _).trans h2,(vA _).trans h3⟩
theorem oC{h:List UInt8}(hh:h.length<=512):bF (bF h)=bF h:=by
 have e:(bF h).length=512:=fH hh
 rw[bF.eq_1 (bF h),e];simp
theorem Kl(s:DSt)(f:Int)(h:List UInt8):jI s f h=if eM s f h≠0 then(eL s f h,eM s f h) else(ek (eL s f h),eN (eL s f h)):=by
 have h1:eY s [(f,h)]=if eM s f h≠0 then(eL s f h,eM s f h) else(eL s f h,0):=by rw[eY,eY]
 unfold jI cF
 rw[h1]
 by_cases e:eM s f h≠0
 ·rw[if_pos e,if_pos e];unfold cJ;rw[if_pos (by exact e)]
 ·rw[if_neg e,if_neg e];rfl
theorem x8(x:List Chg):(hdB x).length=3+2*x.length:=by
 unfold hdB
 rw[List.length_append]
 have:(x.flatMap λc=>[byteOf (c.1.toNat/256),byteOf c.1.toNat]).length=2*x.length:=by
  induction x with
  |nil=>rfl
  |cons c r ih=>rw[List.flatMap_cons,List.length_append,ih];show 2+2*r.length=2*(r.length+1);omega
 rw[this];rfl
theorem w6(x:List Chg):(cR x).length=7+2*x.length:=by
 unfold cR
 rw[List.length_append,x8];show _+4=_;omega
theorem oS{x:List Chg}(h: ∀c∈x,c.2.length<=512):(x.flatMap λc=>bF c.2).length=512*x.length:=by
 induction x with
 |nil=>rfl
 |cons c r ih=>
  rw[List.flatMap_cons,List.length_append,ih (λc hc=>h c (List.mem_cons_of_mem _ hc)),fH (h c List.mem_cons_self),List.length_cons];omega
theorem JE(n i:Nat):(le4 n).take (i+1)=(le4 n).take i++(if i<4 then [UInt8.ofNat (n/256^i%256)] else []):=by
 match i with
 |0=>simp[le4]
 |1=>rfl
 |2=>rfl
 |3=>rfl
 |i+4=>rw[if_neg ao,List.append_nil,List.take_of_length_le (by simp[le4]),List.take_of_length_le (by simp[le4])]
theorem xB{x:List Chg}{g:Chg->List UInt8}{j:Nat}(h:j<x.length):(x.take (j+1)).flatMap g=(x.take j).flatMap g++g x[j]! :=by
 rw[List.take_add_one,get!_of_lt h,List.flatMap_append];simp
theorem qz{x:List Chg}{j:Nat}(h:j<x.length):x[j]! ∈x:=by rw[getElem!_pos x j h];exact List.getElem_mem _
theorem Ie{s:DSt}{x:List Chg}{j:Nat}{t:DSt}(h:j<x.length)(hr:eY s x=eY t (x.drop j)):eY s x=if eM t x[j]!.1 x[j]!.2≠0 then(eL t x[j]!.1 x[j]!.2,eM t x[j]!.1 x[j]!.2) else eY (eL t x[j]!.1 x[j]!.2) (x.drop (j+1)):=by
 rw[hr,List.drop_eq_getElem_cons h,eY,getElem!_pos x j h]
theorem ph(f:Int)(x:List Chg):(iF f x).length=x.length:=by simp[iF]
theorem BV{f:Int}{x:List Chg}{j:Nat}(h:j<x.length):(iF f x)[j]! =(f+1+(j:Int),x[j]!.2):=by
 rw[getElem!_pos _ j (by rw[ph];exact h),getElem!_pos x j h]
 simp[iF]
theorem Ng{s:DSt}{f:Int}{h:List UInt8}{n j:Nat}(hj:j<n):(na s f h n)[j]! =I2 s f h j:=by
 unfold na
 rw[getElem!_pos _ j (by simp;exact hj)];simp
theorem mn(s:DSt)(f:Int)(h:List UInt8)(n:Nat):(na s f h n).length=n:=by simp[na]
theorem Jh(s:DSt)(f:Int)(h:List UInt8)(n:Nat):na s f h (n+1)=na s f h n++[I2 s f h n]:=by
 unfold na;rw[List.range_succ,List.map_append];rfl
end Go.Proofs.YtebpkhlifcffnaaGreatDoor
namespace Go.Proofs.YtebpkhlifcffnaaGreatDoor
open Go Go.SL
theorem lN(n:Nat):IntKind.u8.wrap (n:Int)=((byteOf n).toNat:Int):=ib n
theorem Jq{a b:UInt8}:(a.toNat*2^8 ||| b.toNat)=a.toNat*256+b.toNat:=by
 rw[IC];omega
theorem Dt{R:List RO}{O O':List Own}{b:Nat}{e:TypeId}{cs:List Value}{w:World}(hT:Take (az b e cs) O O')(h:Sat R O w):Sat (yd b cs::R) O' w:=(h.perm hT.perm).share _ (λw hp _ j u hj=>cy hp hj)
def Ox(x:List Chg):Prop:= ∀c∈x,0<=c.1/\c.1<65536/\c.2.length<=512
section
variable{R:List RO}{O:List Own}{POST:Value->List RO->List Own->Prop}{d l m:Nat}{V:DV}{s:DSt}{f z:Int}
abbrev gP(l d:Nat)(f z:Int):RO:=yd l [dp d,.int .i64 f,.int .i64 z]
set_option maxRecDepth 20000 in
theorem J5{i:Int}(hl:gP l d f z∈R)(hz:0<=f/\f<=5000/\0<=z/\z<=5000)(hk:POST (.bool (decide (f<=i/\i<f+z))) R O):Fun Tryz.prog 169 #[dp l,.int .i64 i] R O POST:=by
 refine aC (l:=[_,_]) Tryz.func169 rfl Tryz.ntmps169 rfl (L0:=[(0,_),(1,_)]) rfl ?_
 refine aD<|ar rfl<|aw ?_
 refine aF<|WC.still mixed an ?_
 refine dP rfl (al rfl rfl)<|dP rfl (al rfl rfl)<|dP rfl (aL rfl rfl)<|dP rfl (by exact ak rfl rC rfl rfl) ?_
 refine dP rfl (c8 (off:=1) rfl C3 rfl hl rfl) ?_
 refine dP rfl (Rd.geq rfl rfl rfl)<|dP rfl (al rfl rfl)<|WA.case 11 rfl (λhg11=>?_) (λhg11=>?_)
 ·
  refine vN rfl (al rfl rfl)<|vN rfl (al rfl rfl)<|vN rfl (aL rfl rfl)<|vN rfl (by exact ak rfl rC rfl rfl) ?_
  refine vN rfl (c8 (off:=1) rfl C3 rfl hl rfl) ?_
  refine vN rfl (al rfl rfl)<|vN rfl (aL rfl rfl)<|vN rfl (by exact ak rfl KB rfl rfl) ?_
  refine vN rfl (c8 (off:=2) rfl C3 rfl hl rfl) ?_
  refine vN rfl (Rd.add rfl rfl rfl ao) ?_
  refine vN rfl (Rd.lss rfl rfl rfl)<|dP rfl (aY rfl rfl rfl)<|dP rfl (Rd.assign rfl rfl)<|WA.nil<|aa<|WC.ret (Ret.one Tryz.results169 rfl ?_)
  rw[show decide (f<=i/\i<f+z)=decide (i<f+z) from by rw[decide_eq_decide];exact⟨λh=>h.2,λh=>⟨by omega,h⟩⟩] at hk
  exact hk
 ·
  refine vO rfl<|vO rfl<|vO rfl<|vO rfl<|vO rfl<|vO rfl<|vO rfl<|vO rfl<|vO rfl<|vO rfl<|vO rfl<|dP rfl (aQ rfl rfl rfl)<|dP rfl (Rd.assign rfl rfl)<|WA.nil<|aa<|WC.ret (Ret.one Tryz.results169 rfl ?_)
  rw[decide_eq_false ao] at hk
  exact hk
set_option maxRecDepth 20000 in
theorem qB{i:Int}(hl:gP l d f z∈R)(hz:0<=f/\f<=5000/\0<=z/\z<=5000)(hk:POST (.bool (jd s f z i)) R (dO d V s O)):Fun Tryz.prog 109 #[dp l,.int .i64 i] R (dO d V s O) POST:=by
 refine aC (l:=[_,_]) Tryz.func109 rfl Tryz.ntmps109 rfl (L0:=[(0,_),(1,_)]) rfl ?_
 refine aD<|ar rfl<|a7<|af rfl<|ab rfl (Rd.geq rfl rfl rfl)<|af rfl ?_
 refine WL.case 7 rfl (λhg7=>?_) (λhg7=>?_)
 ·
  refine aT rfl (al rfl rfl)<|aT rfl (al rfl rfl)<|aT rfl (aL rfl rfl)<|aT rfl (by exact ak rfl mH rfl rfl) ?_
  refine aT rfl (c8 (off:=0) (u:=dp d) rfl C25 rfl hl rfl) ?_
  refine WL.c4 rfl rfl rfl rfl<|aj rfl rfl aZ an rfl rfl rfl ?_
  refine fY ?_
  refine aT rfl (Rd.lss rfl rfl rfl)<|ab rfl (aY rfl rfl rfl)<|af rfl<|WL.case 16 rfl (λhg16=>?_) (λhg16=>?_)
  ·
   refine aT rfl (al rfl rfl)<|aT rfl (al rfl rfl)<|WL.c4 rfl rfl rfl rfl<|aj rfl rfl aZ an rfl rfl rfl ?_
   refine J5 hl hz ?_
   refine aT rfl (by exact iS rfl rfl) ?_
   refine ab rfl (aY rfl rfl rfl)<|ar rfl<|aw<|WC.ret (Ret.one Tryz.results109 rfl ?_)
   first
    |(have e:jd s f z i=false:=decide_eq_false ao
      rw[e] at hk
      exact hk)
    |(have e:jd s f z i= !decide (f<=i/\i<f+z):=by
       unfold jd
       rw[Bool.eq_iff_iff]
       simp only[decide_eq_true_eq,Bool.not_eq_true',decide_eq_false_iff_not]
       omega
      rw[e] at hk
      exact hk)
    |(have e:jd s f z i=decide (¬(f<=i/\i<f+z)):=by
       unfold jd
       rw[decide_eq_decide]
       omega
      rw[e] at hk
      exact hk)
  ·
   refine aW rfl<|aW rfl<|aW rfl<|aW rfl<|ab rfl (aQ rfl rfl rfl)<|ar rfl<|aw<|WC.ret (Ret.one Tryz.results109 rfl ?_)
   first
    |(have e:jd s f z i=false:=decide_eq_false ao
      rw[e] at hk
      exact hk)
    |(have e:jd s f z i= !decide (f<=i/\i<f+z):=by
       unfold jd
       rw[Bool.eq_iff_iff]
       simp only[decide_eq_true_eq,Bool.not_eq_true',decide_eq_false_iff_not]
       omega
      rw[e] at hk
      exact hk)
    |(have e:jd s f z i=decide (¬(f<=i/\i<f+z)):=by
       unfold jd
       rw[decide_eq_decide]
       omega
      rw[e] at hk
      exact hk)
 ·
  refine aW rfl<|aW rfl<|aW rfl<|aW rfl<|aW rfl<|aW rfl<|aW rfl<|ab rfl (aQ rfl rfl rfl)<|af rfl<|aW rfl<|aW rfl<|aW rfl<|aW rfl<|ab rfl (aQ rfl rfl rfl)<|ar rfl<|aw<|WC.ret (Ret.one Tryz.results109 rfl ?_)
  first
   |(have e:jd s f z i=false:=decide_eq_false ao
     rw[e] at hk
     exact hk)
   |(have e:jd s f z i= !decide (f<=i/\i<f+z):=by
      unfold jd
      rw[Bool.eq_iff_iff]
      simp only[decide_eq_true_eq,Bool.not_eq_true',decide_eq_false_iff_not]
      omega
     rw[e] at hk
     exact hk)
   |(have e:jd s f z i=decide (¬(f<=i/\i<f+z)):=by
      unfold jd
      rw[decide_eq_decide]
      omega
     rw[e] at hk
     exact hk)
set_option maxRecDepth 20000 in
theorem xg(hl:gP l d f z∈R)(hz:0<=z/\z<=5000)(hk:POST (.int .i64 (z-1)) R O):Fun Tryz.prog 108 #[dp l] R O POST:=by
 refine aC (l:=[_]) Tryz.func108 rfl Tryz.ntmps108 rfl (L0:=[(0,_)]) rfl ?_
 refine aD<|ar rfl<|aw<|bd<|af rfl<|ab rfl (j3 rfl Tryz.underlying73 rfl rfl)<|aw ?_
 refine WC.cond rfl (λhc1=>?_) (λhc1=>?_)
 ·
  simp at hc1
 ·
  refine ay<|aa<|aD<|af rfl<|ab rfl (aL rfl rfl)<|ab rfl (by exact ak rfl KB rfl rfl) ?_
  refine ab rfl (c8 (off:=2) rfl C3 rfl hl rfl) ?_
  refine ab rfl (Rd.sub rfl rfl rfl ao) ?_
  refine ar rfl<|aw<|WC.ret (Ret.one Tryz.results108 rfl ?_)
  exact hk
set_option maxRecDepth 20000 in
set_option maxHeartbeats 2000000 in
theorem pZ{x:List Chg}{xv:Value}(ht:ea∈R)(hx:SlE jM xv x∈R)(hc:Ox x)(hn:x.length<=64)(hk:POST (vs (cR x)) R O):Fun Tryz.prog 110 #[xv] R O POST:=by
 have hhl:=x8 x
 have hal:(gu x).length<=200000:=by
  unfold gu
  rw[List.length_append,oS (λc hc'=>(hc c hc').2.2)];omega
 have hsum:=EF (gu x)
 refine aC (l:=[_]) Tryz.func110 rfl Tryz.ntmps110 rfl (L0:=[(0,_)]) rfl ?_
 refine aD<|ar rfl<|a7<|af rfl<|ab rfl (by exact bu rfl rfl Tryz.underlying116 aK) ?_
 refine ab rfl (cX (kd':=.u8) rfl rfl Tryz.underlying5 (hS:=Tryz.underlying3)) ?_
 refine aU 13 (u:=vy (byteOf x.length)) rfl (by rw[lN]) ?_
 refine aq rfl<|aX (ps:=[(0,_)]) rfl S41 aZ rfl rfl fy an rfl rfl rfl ?_;intro b14
 refine ab rfl (bY (bs:=[byteOf x.length]) rfl Tryz.underlying41 Tryz.underlying9 Tryz.underlying5 rfl aK rfl rfl ao) ?_
 refine ab rfl (cA rfl rfl rfl (by show 2+1<=_;omega)) ?_
 refine ar rfl<|aw<|bd<|af rfl<|ab rfl (by exact bu rfl rfl Tryz.underlying116 aK) ?_
 refine af rfl<|aw<|WC.block ?_
 refine WC.pick [3,19,0,17,18] eS ?_
 refine WC.iJ 2 (λ(j:Nat)=>[(3,vs ([87,76,byteOf x.length]++(x.take j).flatMap λc=>[byteOf (c.1.toNat/256),byteOf c.1.toNat])),(19,.int .i64 (j:Int))]) (λ(j:Nat)=>O) (λ(j:Nat)=>j<=x.length) (λ(j:Nat)=>x.length-j) (0) iw ?hinv1 cC bN ?_
 case hinv1=>
  exact Nat.zero_le _
 intro j
 rintro j1
 refine aD<|ab rfl (Rd.lss rfl rfl rfl)<|aw ?_
 refine aF<|aE rfl (λhc1=>?_) (λhc1=>?_)
 ·
  obtain⟨hc1',hc2',hc3'⟩:=hc _ (qz (x:=x) (j:=j) ao)
  have hpl:([87,76,byteOf x.length]++(x.take j).flatMap λc=>[byteOf (c.1.toNat/256),byteOf c.1.toNat]).length=3+2*j:=by
   have:=x8 (x.take j)
   unfold hdB at this
   rw[List.length_append] at this⊢
   rw[List.length_take,Nat.min_eq_left ao] at this
   exact this
  have hnx:=xB (g:=λc:Chg=>[byteOf (c.1.toNat/256),byteOf c.1.toNat]) (x:=x) (j:=j) ao
  obtain⟨c,hcc⟩: ∃c,c=x[j]! :=⟨_,rfl⟩
  rw[←hcc] at hc1' hc2' hc3' hnx
  refine ay<|aa<|aF<|WC.block ?_
  refine aD<|ab rfl (by exact dy rfl vg rfl rfl rfl aK ao) ?_
  refine ab rfl (dM (k:=j) (a:=c) (cs:=[.int .i64 c.1,vs c.2]) (enc:=jM) (xs:=x) rfl sL rfl aK (λ_=>rfl) (by rw[hcc];exact get!_of_lt ao) ba) ?_
  refine aq rfl<|OpW.alloc rfl wj rfl ba rfl rfl ?_;intro b5
  refine aq rfl<|aM rfl sL rfl rfl ba bh rfl rfl ba rfl ?_
  refine lE<|af rfl<|ab rfl (by exact ak rfl uS rfl rfl) ?_
  refine ab rfl (ax (off:=0) (u:=.int .i64 c.1) rfl C3 rfl aK rfl) ?_
  refine ab rfl (cu (a:=c.1.toNat) (n:=8) rfl rfl rfl ao rfl ct) ?_
  refine ab rfl (cX (kd':=.u8) rfl rfl Tryz.underlying5 (hS:=Tryz.underlying3)) ?_
  refine aU 27 (u:=vy (byteOf (c.1.toNat/256))) rfl (by rw[lN]) ?_
  refine ab rfl (by exact ak rfl uS rfl rfl) ?_
  refine ab rfl (ax (off:=0) (u:=.int .i64 c.1) rfl C3 rfl aK rfl) ?_
  refine ab rfl (cX (kd':=.u8) rfl rfl Tryz.underlying5 (hS:=Tryz.underlying3)) ?_
  refine aU 30 (u:=vy (byteOf c.1.toNat)) rfl (by show Value.int .u8 (IntKind.u8.wrap c.1)=Value.int .u8 ((byteOf c.1.toNat).toNat:Int);rw[←lN,Int.toNat_of_nonneg hc1']) ?_
  refine aq rfl<|aX (ps:=[(0,_),(1,_)]) rfl S41 aZ rfl rfl fy an rfl rfl rfl ?_;intro b31
  refine ab rfl (bY (bs:=[byteOf (c.1.toNat/256),byteOf c.1.toNat]) rfl Tryz.underlying41 Tryz.underlying9 Tryz.underlying5 rfl aK rfl rfl ao) ?_
  refine ab rfl (cA rfl rfl rfl (by rw[hpl];show _+2<=_;omega)) ?_
  refine ar rfl<|aG<|aA<|aa<|aB<|ab rfl (Rd.add rfl rfl rfl ao) ?_
  exact af rfl<|aG<|bq.mk (j+1) ao ao (by refine Sub.cons rfl (by rw[hnx,List.append_assoc]) ?_;exact cC) bN
 ·
  obtain rfl:j=x.length:=by omega
  have hhd:([87,76,byteOf x.length]++(x.take x.length).flatMap λc=>[byteOf (c.1.toNat/256),byteOf c.1.toNat])=hdB x:=by rw[List.take_length];rfl
  rw[hhd]
  refine WC.exit<|au.exit<|bq.exit<|aH.exit<|aa<|aD<|aq rfl<|OpW.alloc rfl wa rfl ba rfl rfl ?_;intro b6
  refine aw<|aF<|WC.heap (λw h=>(h.dH (α:=UInt8) (e:=5) (size:=1) (enc:=SL.one vy)).swap) ?_
  refine aB<|af rfl<|aq rfl<|aj rfl rfl aZ an rfl rfl rfl ?_
  refine lV (off:=0) (bs:=[]) (.inl rfl) rfl rfl an (by rw[hhl];simp;omega) ?_;intro v36 hv36
  refine aw<|bd<|af rfl<|ab rfl (by exact bu rfl rfl Tryz.underlying116 aK) ?_
  refine af rfl<|aw<|WC.block ?_
  refine WC.pick [39,3,6,37,38] eS ?_
  refine WC.ia 1 (λ(j:Nat) (v:Value)=>[(39,.int .i64 (j:Int))]) (λ(j:Nat) (v:Value)=>az b6 141 [fu b6 0,v]::bt 5 1 (SL.one vy) v (hdB x++(x.take j).flatMap λc=>bF c.2)::O) (λ(j:Nat) (v:Value)=>j<=x.length/\bL v) (λ(j:Nat) (v:Value)=>x.length-j) (0) (v36) iw ?hinv2 cC (λw h=>by rw[List.take_zero,List.flatMap_nil,List.append_nil];exact dj h) ?_
  case hinv2=>
   exact⟨Nat.zero_le _,hv36⟩
  intro j v
  rintro⟨j1,j2⟩
  refine aD<|ab rfl (Rd.lss rfl rfl rfl)<|aw ?_
  refine aF<|aE rfl (λhc2=>?_) (λhc2=>?_)
  ·
   obtain⟨hc1',hc2',hc3'⟩:=hc _ (qz (x:=x) (j:=j) ao)
   have hnx:=xB (g:=λc:Chg=>bF c.2) (x:=x) (j:=j) ao
   have hpl:((x.take j).flatMap λc:Chg=>bF c.2).length=512*j:=by
    rw[oS (λc hc'=>(hc c (List.mem_of_mem_take hc')).2.2),List.length_take,Nat.min_eq_left ao]
   obtain⟨c,hcc⟩: ∃c,c=x[j]! :=⟨_,rfl⟩
   rw[←hcc] at hc1' hc2' hc3' hnx
   have hfl:=fH hc3'
   refine ay<|aa<|aF<|WC.block ?_
   refine aD<|ab rfl (by exact dy rfl vg rfl rfl rfl aK ao) ?_
   refine ab rfl (dM (k:=j) (a:=c) (cs:=[.int .i64 c.1,vs c.2]) (enc:=jM) (xs:=x) rfl sL rfl aK (λ_=>rfl) (by rw[hcc];exact get!_of_lt ao) ba) ?_
   refine aq rfl<|OpW.alloc rfl wj rfl ba rfl rfl ?_;intro b8
   refine aq rfl<|aM rfl sL rfl rfl ba bh rfl rfl ba rfl ?_
   refine aw<|WC.drawn (az b8 204 [.int .i64 c.1,vs c.2]::O) 9 rfl mixed ?_
   refine ae 0 rfl an aN rfl rfl rfl ((by exact ak rfl uC rfl rfl)) ?_
   refine ae 1 rfl an aN rfl rfl rfl (ax (off:=1) (u:=vs c.2) rfl C9 rfl aK rfl) ?_
   refine ae 2 rfl an aN rfl rfl rfl ((by exact ak rfl uC rfl rfl)) ?_
   refine ae 3 rfl an aN rfl rfl rfl (ax (off:=1) (u:=vs c.2) rfl C9 rfl aK rfl) ?_
   refine ae 4 rfl an aN rfl rfl rfl (cg (ts:=#[]) (ty:=0) rfl rfl Tryz.underlying9) ?_
   refine ae 5 rfl an aN rfl rfl rfl (Rd.sub rfl rfl rfl ao) ?_
   refine aS 6 rfl an rfl ?_
   refine aj rfl rfl aZ an rfl rfl rfl ?_
   refine Fun.below (v:=vs (Lib.repeatL [0] (512-c.2.length))) (λw=>by
    have:=Tryz.strings_Repeat ⟨#[0]⟩ (512-c.2.length) w ao (by show 1*_<=_;omega)
    rw[show((512-c.2.length:Nat):Int)=512-(c.2.length:Int) from by omega] at this
    exact this) ?_
   rw[iB]
   refine⟨aN,?_⟩
   refine ae 7 rfl an aN rfl rfl rfl (cA rfl rfl rfl (by rw[List.length_replicate];omega)) ?_
   refine WD.say 50 (u:=vs (bF c.2)) rfl rfl ?_
   refine aS 8 rfl an rfl ?_
   refine aj rfl rfl aZ an rfl rfl rfl ?_
   refine Fun.heap (R':=R) (O':=az b6 141 [fu b6 0,v]::bt 5 1 (SL.one vy) v (hdB x++(x.take j).flatMap λc=>bF c.2)::az b8 204 [.int .i64 c.1,vs c.2]::O) bN ?_
   refine lV (off:=0) (.inr rfl) rfl rfl an (by rw[List.length_append,hhl,hpl,hfl];omega) ?_;intro v51 hv51
   refine⟨aN,?_⟩
   refine WD.done an ?_
   refine aA<|aa<|aB<|ab rfl (Rd.add rfl rfl rfl ao) ?_
   exact af rfl<|aG<|bC.mk (j+1) v51 ⟨by omega,hv51⟩ ao cC (λw h=>by rw[hnx,←List.append_assoc];exact dj h)
  ·
   obtain rfl:j=x.length:=by omega
   have hall:(hdB x++(x.take x.length).flatMap λc=>bF c.2)=gu x:=by rw[List.take_length];rfl
   rw[hall]
   refine WC.exit<|au.exit<|bC.exit<|aH.exit<|aa<|aD<|aq rfl<|aj rfl rfl aZ an rfl rfl rfl ?_
   refine om (off:=0) rfl ?_
   refine aq rfl<|aj rfl rfl aZ an rfl rfl rfl ?_
   refine lk ht ao ?_
   refine ar rfl<|aU 3 (u:=vs (hdB x++(le4 (dx (gu x))).take 0)) rfl (by rw[List.take_zero,List.append_nil]) ?_
   refine aw<|bd<|af rfl<|aw ?_
   refine WC.block ?_
   refine WC.pick [3,55,9] eS ?_
   refine WC.iJ 2 (λ(i:Nat)=>[(3,vs (hdB x++(le4 (dx (gu x))).take i)),(55,.int .i64 (i:Int))]) (λ(i:Nat)=>O) (λ(i:Nat)=>i<=4) (λ(i:Nat)=>4-i) (0) iw ?hinv3 cC bN ?_
   case hinv3=>
    exact Nat.zero_le _
   intro i
   rintro i1
   refine aD<|ab rfl (Rd.lss rfl rfl rfl)<|aw ?_
   refine aF<|aE rfl (λhc3=>?_) (λhc3=>?_)
   ·
    have hls:=JE (dx (gu x)) i
    rw[if_pos ao] at hls
    have hlt:((le4 (dx (gu x))).take i).length<=4:=by rw[List.length_take];simp[le4];omega
    refine ay<|aa<|aF<|WC.block ?_
    refine aD<|af rfl<|ar rfl<|lE<|af rfl<|af rfl<|af rfl<|ab rfl (Rd.mul rfl rfl rfl ao) ?_
    refine ab rfl (cu (a:=dx (gu x)) (n:=8*i) rfl rfl rfl rfl ao (by show 8*i<=32;omega)) ?_
    refine ab rfl (cX (kd':=.u8) rfl rfl Tryz.underlying5 (hS:=Tryz.underlying194)) ?_
    refine aU 63 (u:=vy (UInt8.ofNat (dx (gu x)/256^i%256))) rfl (by rw[ib,show(2:Nat)^(8*i)=256^i from by rw[Nat.pow_mul]]) ?_
    refine aq rfl<|aX (ps:=[(0,_)]) rfl S41 aZ rfl rfl fy an rfl rfl rfl ?_;intro b64
    refine ab rfl (bY (bs:=[UInt8.ofNat (dx (gu x)/256^i%256)]) rfl Tryz.underlying41 Tryz.underlying9 Tryz.underlying5 rfl aK rfl rfl ao) ?_
    refine ab rfl (cA rfl rfl rfl (by rw[List.length_append,hhl];show _+1<=_;omega)) ?_
    refine ar rfl<|aG<|aA<|aa<|aB<|ab rfl (Rd.add rfl rfl rfl ao) ?_
    exact af rfl<|aG<|bq.mk (i+1) ao ao (by refine Sub.cons rfl (by rw[hls,List.append_assoc]) ?_;exact cC) bN
   ·
    refine WC.exit<|au.exit<|bq.exit<|aH.exit<|aa<|aD<|af rfl<|ar rfl<|aw ?_
    obtain rfl:i=4:=by omega
    have e4:(le4 (dx (gu x))).take 4=le4 (dx (gu x)):=rfl
    rw[e4]
    refine WC.heap (R':=R) (O':=O) bN ?_
    refine WC.ret (Ret.one Tryz.results110 rfl ?_)
    exact hk
set_option maxRecDepth 20000 in
set_option maxHeartbeats 2000000 in
theorem ql{x:List Chg}{xv:Value}(hl:gP l d f z∈R)(hx:SlE jM xv x∈R)(dk:Dk s m)(hm:m+x.length<=4294967290)(hv:VOk V s)(hkeep:SlE (SL.one vi) V.kv s.keep∈R)
 (hk: ∀V',VOk V' (cF s x).1->V'.kv=V.kv->POST (.int .i64 ((cF s x).2:Nat)) R (dO d V' (cF s x).1 O)):Fun Tryz.prog 53 #[dp l,xv] R (dO d V s O) POST:=by
 refine Fun.len hx λhxl=>?_
 obtain⟨dk1,_,hkp1⟩:=vH (x:=x) dk
 refine aC (l:=[_,_]) Tryz.func53 rfl Tryz.ntmps53 rfl (L0:=[(0,_),(1,_)]) rfl ?_
 refine aD<|ar rfl<|aw<|bd<|af rfl<|ab rfl (by exact bu rfl rfl Tryz.underlying116 aK) ?_
 refine af rfl<|aw<|WC.block ?_
 refine WC.pick [10,0,8,9] eS ?_
 refine WC.rR 1 (λ(j:Nat) (t:DSt) (U:DV)=>[(10,.int .i64 (j:Int))]) (λ(j:Nat) (t:DSt) (U:DV)=>dO d U t O) (λ(j:Nat) (t:DSt) (U:DV)=>j<=x.length/\Dk t (m+j)/\VOk U t/\U.kv=V.kv/\t.keep=s.keep/\eY s x=eY t (x.drop j)) (λ(j:Nat) (t:DSt) (U:DV)=>x.length-j) (0) (s) (V) iw ?hinv1 cC (λ_ h=>h) ?_
 case hinv1=>
  exact⟨Nat.zero_le _,dk,hv,rfl,rfl,rfl⟩
 intro j t U
 rintro⟨j1,dkt,hu,hkv,hkp,hrun⟩
 refine aD<|ab rfl (Rd.lss rfl rfl rfl)<|aw ?_
 refine aF<|aE rfl (λhc1=>?_) (λhc1=>?_)
 ·
  have hat:=Ie (j:=j) ao hrun
  obtain⟨c,hcc⟩: ∃c,c=x[j]! :=⟨_,rfl⟩
  rw[←hcc] at hat
  refine ay<|aa<|aF<|WC.block ?_
  refine aD<|ab rfl (by exact dy rfl vg rfl rfl rfl aK ao) ?_
  refine ab rfl (dM (k:=j) (a:=c) (cs:=[.int .i64 c.1,vs c.2]) (enc:=jM) (xs:=x) rfl sL rfl aK (λ_=>rfl) (by rw[hcc];exact get!_of_lt ao) ba) ?_
  refine aq rfl<|OpW.alloc rfl wj rfl ba rfl rfl ?_;intro b6
  refine aq rfl<|aM rfl sL rfl rfl ba bh rfl rfl ba rfl ?_
  refine aw<|aF<|WC.tail 8 mixed an ?_
  refine bn rfl (al rfl rfl)<|bn rfl (aL rfl rfl)<|bn rfl (by exact ak rfl mH rfl rfl) ?_
  refine bn rfl (c8 (off:=0) (u:=dp d) rfl C25 rfl hl rfl) ?_
  refine bn rfl (by exact ak rfl uS rfl rfl) ?_
  refine bn rfl (ax (off:=0) (u:=.int .i64 c.1) rfl C3 rfl aK rfl) ?_
  refine bn rfl (by exact ak rfl uC rfl rfl) ?_
  refine bn rfl (ax (off:=1) (u:=vs c.2) rfl C9 rfl aK rfl) ?_
  refine dm<|aq rfl<|aj rfl rfl aZ an rfl rfl rfl ?_
  refine Fun.heap (R':=R) (O':=dO d U t (az b6 204 [.int .i64 c.1,vs c.2]::O)) bN ?_
  refine iW dkt.ok ao hu (by rw[hkv,hkp];exact hkeep) ?_;intro U1 hu1 hku1
  refine ar rfl<|a7<|af rfl<|ab rfl (Rd.neq rfl rfl rfl)<|aw<|aE rfl (λhc2=>?_) (λhc2=>?_)
  ·
   rw[if_pos ao] at hat
   have hfin:cF s x=(eL t c.1 c.2,eM t c.1 c.2):=by unfold cF cJ;rw[hat,if_pos (by show eM t c.1 c.2≠0;omega)]
   rw[hfin] at hk
   refine aD<|af rfl<|ar rfl<|aw ?_
   refine WC.heap (R':=R) (O':=dO d U1 (eL t c.1 c.2) O) bN ?_
   refine WC.ret (Ret.one Tryz.results53 rfl ?_)
   exact hk U1 hu1 (hku1.trans hkv)
  ·
   rw[if_neg ao] at hat
   refine ay<|aA<|aa<|aB<|ab rfl (Rd.add rfl rfl rfl ao) ?_
   exact af rfl<|aG<|dN.mk (j+1) (eL t c.1 c.2) U1 ⟨by omega,(dkt.put _ _).mono ao,hu1,hku1.trans hkv,(hZ _ _ _).trans hkp,hat⟩ ao cC bN
 ·
  obtain rfl:j=x.length:=by omega
  have hr0:eY s x=(t,0):=by rw[hrun,List.drop_length];rfl
  have hfin:cF s x=(ek t,eN t):=by unfold cF cJ;rw[hr0,if_neg (λh=>h rfl)]
  rw[hfin] at hk
  refine WC.exit<|au.exit<|dN.exit<|aH.exit<|aa<|aD<|af rfl<|ab rfl (aL rfl rfl)<|ab rfl (by exact ak rfl mH rfl rfl) ?_
  refine ab rfl (c8 (off:=0) (u:=dp d) rfl C25 rfl hl rfl) ?_
  refine aq rfl<|aj rfl rfl aZ an rfl rfl rfl ?_
  refine lK dkt.ok ao hu (by rw[hkv,hkp];exact hkeep) ?_;intro U1 hu1 hku1
  refine ar rfl<|aw<|WC.ret (Ret.one Tryz.results53 rfl ?_)
  exact hk U1 hu1 (hku1.trans hkv)
set_option maxRecDepth 20000 in
theorem nC{h:List UInt8}(hl:gP l d f z∈R)(dk:Dk s m)(hm:m<=4294967280)(hv:VOk V s)(hkeep:SlE (SL.one vi) V.kv s.keep∈R)
 (hk: ∀V',VOk V' (jI s f h).1->V'.kv=V.kv->POST (.int .i64 ((jI s f h).2:Nat)) R (dO d V' (jI s f h).1 O)):Fun Tryz.prog 54 #[dp l,vs h] R (dO d V s O) POST:=by
 refine aC (l:=[_,_]) Tryz.func54 rfl Tryz.ntmps54 rfl (L0:=[(0,_),(1,_)]) rfl ?_
 refine aD<|ar rfl<|aw ?_
 refine aF<|aF<|WC.tail 9 mixed an ?_
 refine bn rfl (al rfl rfl)<|bn rfl (aL rfl rfl)<|bn rfl (by exact ak rfl mH rfl rfl) ?_
 refine bn rfl (c8 (off:=0) (u:=dp d) rfl C25 rfl hl rfl) ?_
 refine bn rfl (al rfl rfl)<|bn rfl (aL rfl rfl)<|bn rfl (by exact ak rfl rC rfl rfl) ?_
 refine bn rfl (c8 (off:=1) (u:=.int .i64 f) rfl C3 rfl hl rfl) ?_
 refine bn rfl (al rfl rfl)<|dm<|aq rfl<|aj rfl rfl aZ an rfl rfl rfl ?_
 refine iW dk.ok ao hv hkeep ?_;intro U1 hu1 hku1
 refine ar rfl<|a7<|af rfl<|ab rfl (Rd.neq rfl rfl rfl)<|aw<|aE rfl (λhc1=>?_) (λhc1=>?_)
 ·
  have hfin:jI s f h=(eL s f h,eM s f h):=by rw[Kl,if_pos ao]
  rw[hfin] at hk
  refine aD<|af rfl<|ar rfl<|aw ?_
  refine WC.ret (Ret.one Tryz.results54 rfl ?_)
  exact hk U1 hu1 hku1
 ·
  have hfin:jI s f h=(ek (eL s f h),eN (eL s f h)):=by rw[Kl,if_neg ao]
  rw[hfin] at hk
  refine ay<|aa<|aD<|af rfl<|ab rfl (aL rfl rfl)<|ab rfl (by exact ak rfl mH rfl rfl) ?_
  refine ab rfl (c8 (off:=0) (u:=dp d) rfl C25 rfl hl rfl) ?_
  refine aq rfl<|aj rfl rfl aZ an rfl rfl rfl ?_
  refine lK (dk.put _ _).ok ao hu1 (by rw[hku1,hZ];exact hkeep) ?_;intro U2 hu2 hku2
  refine ar rfl<|aw<|WC.ret (Ret.one Tryz.results54 rfl ?_)
  exact hk U2 hu2 (hku2.trans hku1)
end
end Go.Proofs.YtebpkhlifcffnaaGreatDoor
