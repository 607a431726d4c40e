/-
  Part 15 (chapter 32): lemmas, walks. Each theorem states its own conditions.
-/
import GoSem.Core.World
import Derived.MapKept
import Derived.WalkKit
import Derived.WalkSpells
import Derived.WalkLawsBesides
import Derived.Deep.LoopGhost
import Derived.Deep.AppendSrc
import Derived.Laws.BytesArg
import Derived.Laws.CopyRow
import Derived.Laws.AppendOwn
import Derived.Test.YtaffcpfhedadhaaGreatDoorProg
import Derived.Shelf.Strings.Builder1
import Derived.Shelf.Strings.Builder2
import Derived.Shelf.Small.Utf8
import Derived.Shelf.Small.Bits
import Derived.Shelf.Small.Strs
import Derived.Shelf.Small.Wraps
import Derived.Shelf.Strings.BuilderF
import Derived.Shelf.Strconv.Itoa0
import Derived.Shelf.Strings.Search1
import Derived.Shelf.Strings.Prefix
import Derived.Shelf.Strings.Runes
import Derived.Shelf.Strings.AsciiSet
import Derived.Shelf.Bits.Mul64
import Derived.Shelf.Strings.Repeat
import Derived.Shelf.Unicode.DecodeSlow
import Derived.Laws.Externs
import Derived.Lib.ItoaNum
import Derived.Test.YtaffcpfhedadhaaGreatDoorA07
import Derived.Test.YtaffcpfhedadhaaGreatDoorA10
import Derived.Test.YtaffcpfhedadhaaGreatDoorA12
set_option linter.all false
set_option maxRecDepth 20000
set_option maxHeartbeats 20000000
section
variable{P Q:Prop}{T:Type}{R:T->Prop}
def qp9(h:P:=by
 rw[hP]
 split
 ·exact qsp
 ·exact qso):=h
def qgB(h:P:=by
 have key:(m%P+P*x<n%P+P*y)↔x<y+(if m%P<n%P then 1 else 0):=by
  rcases Nat.lt_trichotomy x y with c|c|c
  ·have:=Nat.mul_le_mul_left P c;rw[Nat.mul_succ] at this
   constructor<;>intro _<;>omega
  ·subst c;split<;>constructor<;>intro _<;>omega
  ·have:=Nat.mul_le_mul_left P c;rw[Nat.mul_succ] at this
   split<;>constructor<;>intro _<;>omega
 simp only[key]):=h
def qso(h:P:=by
 rename_i hge
 have hMN:N<=M:=by
  by_cases c:M<N
  ·have:=Nat.mul_le_mul_left P c;rw[Nat.mul_succ] at this;omega
  ·omega
 obtain⟨k,rfl⟩:∃k,M=N+k:=⟨M-N,ae⟩;have e:m-n=(m%P-n%P)+P*k:=by
  rw[Nat.mul_add] at h1;omega
 exact qgI):=h
def qsp(h:P:=by
 rename_i hlt
 have hMN:N+1<=M:=by
  by_cases c:M<=N
  ·have:=Nat.mul_le_mul_left P c;omega
  ·omega
 obtain⟨k,rfl⟩:∃k,M=N+1+k:=⟨M-(N+1),ae⟩;have e:m-n=(m%P+P-n%P)+P*k:=by
  rw[Nat.mul_add,Nat.mul_add] at h1;omega
 exact qgI):=h
def qgC(h:P:=by
 by_cases e:k=i+j
 ·subst e;rw[if_neg ae,if_pos ae,if_pos rfl,show i+j-j=i by omega]
 ·exact qsq):=h
def qsq(h:P:=by
 rw[if_neg e]
 by_cases c:k<j
 ·rw[if_pos c,if_pos c]
 ·exact qsr):=h
def qgD(h:P:=by
 generalize W/ag^i%ag=w at*
 generalize g*Y/ag^i%ag=p at*
 generalize xe Y W L g/ag^i%ag=d at*
 generalize lZ (W+ag^(L+1)) (g*Y) i=b at*
 omega):=h
def YT(h:P:=by subst e;rw[if_pos ae,if_pos rfl]):=h
def qsr(h:P:=by
 rw[if_neg c,if_neg c]
 by_cases c2:k<j+i
 ·rw[if_pos c2,if_pos ae]
 ·rw[if_neg c2,if_neg ae]):=h
def YU(h:P:=by rw[Nat.pow_succ,Nat.mod_mul,Nat.add_mul,Nat.mul_assoc]):=h
def qgE(h:P:=by
 by_cases e:j=i+k
 ·exact YT
 ·rw[if_neg e]
  by_cases c:j<i+k
  ·exact BJ
  ·exact BK):=h
def qgF(h:P:=by
 by_cases e:j=i
 ·exact YT
 ·rw[if_neg e]
  by_cases c:j<i
  ·exact BJ
  ·exact BK):=h
def qgG(h:P:=by rw[e] at h;exact Nat.lt_of_lt_of_le h (Nat.pow_le_pow_right au ae)):=h
def qgH(h:P:=by have h1:=qnJ (i:=i) h;have h2:=DU m n i;unfold ag at*;omega):=h
def qgI(h:P:=by rw[e,Nat.add_mul_div_left _ _ hp,Nat.div_eq_of_lt ae];omega):=h
def VW(h:P:=by rw[h];decide):=h
def qqa(h:P:=by rw[Nat.pow_add,Nat.div_div_eq_div_mul]):=h
def qqb(h:P:=by rw[Nat.div_div_eq_div_mul,Nat.div_div_eq_div_mul,Nat.mul_comm]):=h
def qbM(h:P:=by unfold ag;omega):=h
end
namespace Go.Via
variable[Mo]
open Go Go.RowKit
def BQ{P:Program}{f:Nat}{args:Array Value}{v:Value}(hp:iP P f=true)(h:∀w,Calls P f args w fun e w'=>e= .returned v∧w'=w):aG P f args v:=
 ⟨hp,fun w=>(h w).mono (by rintro e w' ⟨h1,rfl⟩;exact⟨h1,dV.refl _ _⟩)⟩
def yc{x:Nat}(h:x<2^64)(h0:x≠0):1<=Lib.bitLen x∧2^(Lib.bitLen x-1)<=x∧x<2^Lib.bitLen x:=Lib.bitLenAux_bounds 64 x h h0
theorem qdQ{x:Nat}(h:x<18446744073709551616)(h0:x≠0):(Lib.bitLen x+7)/8=nb x:=by
 obtain⟨h1,h2,h3⟩:=yc ae h0
 generalize hb:Lib.bitLen x=b at*
 have e1:nb x<=(b+7)/8:=oh (by
 have:(256:Nat)^((b+7)/8)=2^(8*((b+7)/8)):=qbF;rw[this];exact Nat.lt_of_lt_of_le h3 (Nat.pow_le_pow_right ae ae))
 have e2:(b+7)/8<=nb x:=by
  have:(b-1)/8<nb x:=SN ae (by
 have:(256:Nat)^((b-1)/8)=2^(8*((b-1)/8)):=(by rw[Nat.pow_mul]);rw[this];exact Nat.le_trans (Nat.pow_le_pow_right (by omega) (by omega)) h2)
  omega
 omega
def I4:∀(a b:List Nat),a.length=b.length->(∀d∈a,d<256)->(∀d∈b,d<256)->
 Lib.compareBytes (a.reverse.map UInt8.ofNat) (b.reverse.map UInt8.ofNat)=if val 256 a<val 256 b then-1 else if val 256 b<val 256 a then 1 else 0:=by
 have key:∀(a b:List UInt8),a.length=b.length->Lib.compareBytes a b=if mr a<mr b then-1 else if mr b<mr a then 1 else 0:=by
  intro a
  induction a with
  |nil=>intro b h;cases b with
   |nil=>simp[Lib.compareBytes]
   |cons y b=>simp at h
  |cons x a ih=>
   intro b h;cases b with
   |nil=>simp at h
   |cons y b=>
    have hl:a.length=b.length:=pX;have ea:mr (x::a)=mr a+256^a.length*x.toNat:=by
     unfold mr;rw[List.reverse_cons,List.map_append,ru];simp[val]
    have eb:mr (y::b)=mr b+256^a.length*y.toNat:=by
     unfold mr;rw[List.reverse_cons,List.map_append,ru];simp[val,hl]
    have la:mr a<256^a.length:=by
     have:=IL (B:=256) ae (MH a);simpa[mr] using this
    have lb:mr b<256^a.length:=by
     have:=IL (B:=256) ae (MH b);rw[hl];simpa[mr] using this
    have hx:∀{p q r s M:Nat},p<M->q<M->r<s->p+M*r<q+M*s:=by
     intro p q r s M h1 h2 h3;have:M*(r+1)<=M*s:=Nat.mul_le_mul_left M h3;rw[Nat.mul_add] at this;omega
    rw[Lib.compareBytes,ea,eb]
    by_cases h1:x<y
    ·have:=hx la lb (UInt8.lt_iff_toNat_lt.1 h1);rw[if_pos h1,if_pos this]
    ·by_cases h2:y<x
     ·have:=hx lb la (UInt8.lt_iff_toNat_lt.1 h2);rw[if_neg h1,if_pos h2,if_neg ae,if_pos this]
     ·have e:x=y:=by
       apply UInt8.toNat_inj.1
       have:=mt UInt8.lt_iff_toNat_lt.2 h1;have:=mt UInt8.lt_iff_toNat_lt.2 h2;omega
      subst e;rw[if_neg h1,if_neg h2,ih b hl];simp only[Nat.add_lt_add_iff_right]
 intro a b hl ha hb;rw[key _ _ (by simp[hl])];unfold mr;simp only[List.map_reverse,List.reverse_reverse];rw[oV ha,oV hb]
theorem VX{m n:Nat}(h:nb m=nb n):Lib.compareBytes (bH m).data.toList (bH n).data.toList=if m<n then-1 else if n<m then 1 else 0:=by
 rw[Gl,Gl];have:=I4 (ah 256 m) (ah 256 n) h (DD ae) (DD ae);rw[sZ ae,sZ ae] at this;exact this
end Go.Via
namespace Go.Proofs.YtaffcpfhedadhaaGreatDoor
variable[Go.Via.Mo]
open Go Go.RowKit Go.Via
def GX(x:Nat)(h:x<18446744073709551616:=by omega):aG Tryz.prog 226 #[.int .u64 x] (.int .i64 (Lib.bitLen x:Nat)):=
 BQ ak fun w=>by have:=Tryz.bits_Len64 x w ae ae;simpa using this
def vO(x:Nat)(h:x<4294967296:=by omega):aG Tryz.prog 228 #[.int .u32 x] (.int .i64 (32-(Lib.bitLen x:Int))):=
 BQ ak fun w=>by have:=Tryz.bits_LeadingZeros32 x w ae ae;simpa using this
def GY(x y:Nat)(hx:x<18446744073709551616:=by omega)(hy:y<18446744073709551616:=by omega):aG Tryz.prog 202 #[.int .u64 x,.int .u64 y] (.tuple #[.int .u64 ((x*y/18446744073709551616:Nat):Int),.int .u64 ((x*y%18446744073709551616:Nat):Int)]):=
 BQ ak fun w=>Tryz.bits_Mul64 x y hx hy w
def GZ(a b:ByteArray):aG Tryz.prog 225 #[.string a,.string b] (.int .i64 (Lib.compareBytes a.data.toList b.data.toList)):=
 BQ ak fun w=>Tryz.strings_Compare a b w
def qnE{bl:List Nat}{ops:Array Oper}{K:St->Prop}{rest:List Oper}{nt:Nat}{t:List (Nat×Value)}{L:List aF}{d:Nat}{ty:TypeId}{pos:String}{af:Array Edge}{g:Option (Nat×Bool)}{x y z:Operand}{ts:Array TypeId}(m n:Nat)(hd:Nat.blt d nt=true)(hg:az ops ⟨some d,.call {callee:= .value (.func 238),args:= #[x,y,z],argTypes:=ts},ty,pos,af,g⟩ t=some true)
 (hx:ev t x=some (.int .u64 (m:Int)))(hy:ev t y=some (.int .u64 (n:Int)))(hz:ev t z=some (.int .u64 0))(h:aU Tryz.prog bl ops rest ⟨nt,(d,.tuple #[.int .u64 (((m+n)%18446744073709551616:Nat):Int),.int .u64 (((m+n)/18446744073709551616:Nat):Int)])::t,L⟩ K):
 aU Tryz.prog bl ops (⟨some d,.call {callee:= .value (.func 238),args:= #[x,y,z],argTypes:=ts},ty,pos,af,g⟩::rest) ⟨nt,t,L⟩ K:=
 qrN hd hg rfl (fun B a w hrel=>by
 have h1:(callFunc 238 #[.int .u64 (m:Int),.int .u64 (n:Int),.int .u64 0]).run Tryz.prog w= .ok (.value (.tuple #[.int .u64 (((m+n)%18446744073709551616:Nat):Int),.int .u64 (((m+n)/18446744073709551616:Nat):Int)])) w:=by
  rw[run_callFunc_extern Tryz.func238 ak ak ak (e:=add64Entry) ak,run_add64 m n 0 ae ae ae ae];simp only[Result.andThen]
  congr 5<;>omega
 have hv:(#[x,y,z]:Array Operand).map a.eval= #[.int .u64 (m:Int),.int .u64 (n:Int),.int .u64 0]:=by
  show(([x,y,z]:List Operand).toArray).map a.eval=_;rw[List.map_toArray,List.map_cons,List.map_cons,List.map_cons,List.map_nil,hrel.ev hx,hrel.ev hy,hrel.ev hz]
 have hf:a.eval (.func 238)= .func (.func 238) #[] #[]:=rfl;simp only[execOp,resolve,hf,hv,Deferred.ofValue,invoke,Sem.run_bind,Sem.run_pure,Result.andThen_ok]
 simpa using h1) h
end Go.Proofs.YtaffcpfhedadhaaGreatDoor
namespace Go.Via
open Go
def qss(a b:Int)(i:Nat)(h:i<2):([.int .i64 a,.int .i64 b]:List Value)[i]? =some (.int .i64 (if i=0 then a else b)):=by
 have:i=0∨i=1:=ae;rcases this with rfl|rfl<;>rfl
def qxL(a b:Int)(i:Nat)(ha:0<i->a=0)(he:(if i=0 then a else b)=0):0<i+1->a=0:=fun _=>by
 by_cases h:i=0
 ·rwa [if_pos h] at he
 ·exact ha ae
def qxM(a b:Int)(i:Nat)(he:(if i=0 then a else b)=0):1<i+1->b=0:=fun h=>by
 rwa [if_neg ae] at he
theorem qnF(a b:Int)(i:Nat)(ha:0<i->a=0)(hne:(if i=0 then a else b)≠0):(if i=0 then a else b)=(if a=0 then b else a):=by
 by_cases h:i=0
 ·rw[if_pos h] at hne ⊢;rw[if_neg hne]
 ·rw[if_neg h] at hne ⊢;rw[if_pos (ha ae)]
theorem qbN{m n:Nat}(h:nb m<nb n):m<n:=EX ae h
theorem VY(m n:Nat):(if(if(nb m:Int)<(nb n:Int) then(-1:Int) else if(nb n:Int)<(nb m:Int) then 1 else 0)=0 then Lib.compareBytes (bH m).data.toList (bH n).data.toList
 else(if(nb m:Int)<(nb n:Int) then(-1:Int) else if(nb n:Int)<(nb m:Int) then 1 else 0))=oD m n:=by
 unfold oD;rcases Nat.lt_trichotomy (nb m) (nb n) with h|h|h
 ·have:=qbN h;rw[if_pos (by omega:(nb m:Int)<nb n),if_neg au,if_pos this]
 ·rw[if_neg (by omega:¬(nb m:Int)<nb n),if_neg (by omega:¬(nb n:Int)<nb m),if_pos rfl,VX h]
 ·have:=qbN h;rw[if_neg (by omega:¬(nb m:Int)<nb n),if_pos (by omega:(nb n:Int)<nb m),if_neg au,if_neg ae,if_pos this]
def qgJ(m n:Nat):IntKind.i64.wrap (0-oD m n)= -oD m n:=by
 unfold oD;split<;>(try split)<;>rfl
def qbO{b:Int}(h:¬b<0):0<=b.sign:=by
 rcases Int.lt_trichotomy b 0 with h1|h1|h1
 ·exact absurd h1 h
 ·subst h1;decide
 ·rw[Int.sign_eq_one_of_pos h1];decide
def QR{a:Int}(h:a<0):a.sign= -1:=Int.sign_eq_neg_one_of_neg h
theorem qst{a b:Int}(h:(decide (a<0) !=decide (b<0))=true):(if a.sign<b.sign then(-1:Int) else if b.sign<a.sign then 1 else 0)=Bz a b:=by
 unfold Bz
 by_cases ha:a<0<;>by_cases hb:b<0
 ·simp[ha,hb] at h
 ·have h1:=QR ha;have h2:0<=b.sign:=qbO ae;rw[if_pos ae,if_pos ae]
 ·have h1:=QR hb;have h2:0<=a.sign:=qbO ae;rw[if_neg ae,if_pos ae,if_neg ae,if_pos ae]
 ·simp[ha,hb] at h
theorem qnG{a b:Int}(h:(decide (a<0) !=decide (b<0))=false)(h2:decide (a<0)=true): -oD a.natAbs b.natAbs=Bz a b:=by
 have ha:=of_decide_eq_true h2;have hb:b<0:=(by simpa[ha] using h);unfold oD Bz
 by_cases c1:a<b
 ·rw[if_pos c1,if_neg ae,if_pos ae]
 ·rw[if_neg c1]
  by_cases c2:b<a
  ·rw[if_pos c2,if_pos ae];rfl
  ·rw[if_neg c2,if_neg ae,if_neg ae];rfl
theorem qnH{a b:Int}(h:(decide (a<0) !=decide (b<0))=false)(h2:decide (a<0)=false):oD a.natAbs b.natAbs=Bz a b:=by
 have ha:=of_decide_eq_false h2;have hb:¬b<0:=(by simpa[ha] using h);unfold oD Bz
 by_cases c1:a<b
 ·rw[if_pos c1,if_pos ae]
 ·rw[if_neg c1,if_neg (show¬a.natAbs<b.natAbs by omega)]
  by_cases c2:b<a
  ·rw[if_pos c2,if_pos ae]
  ·rw[if_neg c2,if_neg ae]
def qdR(z:Int)(h:decide (z<0)=true):(if decide (z<0)=true then-(z.natAbs:Int) else(z.natAbs:Int))=z:=by
 rw[if_pos h];have:=of_decide_eq_true h;omega
def qdS(z:Int)(h:decide (z<0)=false):(if decide (z<0)=true then-(z.natAbs:Int) else(z.natAbs:Int))=z:=by
 rw[if_neg VW];have:=of_decide_eq_false h;omega
def qgK{l:List UInt8}(h:0<l.length):∃x r,l=x::r:=by cases l with
 |nil=>simp at h
 |cons x r=>exact⟨x,r,rfl⟩
def qdT(x:UInt8)(r:List UInt8):(lm (x::r)).extract (1:Int).toNat (lm (x::r)).size=lm r:=by
 rw[yR];show ByteArray.extract _ 1 _=_
 apply ByteArray.ext
 rw[ByteArray.data_extract];simp[lm]
theorem YV{l:List UInt8}(h:(lm l==⟨#[]⟩)=true):l=[]:=by
 rw[ui] at h
 simpa[lm] using h
def G5{m n:Nat}(h:(decide (nb m<=8)&&decide (nb n<=8))=true):m<18446744073709551616∧n<18446744073709551616∧nb m<=8∧nb n<=8:=by
 simp only[Bool.and_eq_true,decide_eq_true_eq] at h;have h1:=pz h.1;have h2:=pz h.2;exact⟨ae,ae,h.1,h.2⟩
def zH(X Y i:Nat):Nat:=(X%ag^i+Y%ag^i)/ag^i+X/ag^i%ag+Y/ag^i%ag
def vP(X Y i:Nat):Nat:=(X%ag^i+Y%ag^i)/ag^i
def xk(X Y i j:Nat):Nat:=if j<i then(X+Y)/ag^j%ag else X/ag^j%ag
theorem dh(i:Nat):0<ag^i:=Nat.pow_pos au
def bG(n:Nat):n%ag<4294967296:=Nat.mod_lt _ au
def zI(X Y i:Nat):vP X Y i<=1:=by
 unfold vP;have h1:=Nat.mod_lt X (dh i);have h2:=Nat.mod_lt Y (dh i);have:(X%ag^i+Y%ag^i)/ag^i<2:=by rw[Nat.div_lt_iff_lt_mul (dh i)];omega
 omega
theorem qdU(X Y:Nat):vP X Y 0=0:=by simp[vP,Nat.mod_one]
theorem G6(X Y i:Nat):zH X Y i=vP X Y i+X/ag^i%ag+Y/ag^i%ag:=rfl
def G7(X Y i:Nat):zH X Y i<8589934592:=by
 have:=zI X Y i;have h1:=bG (X/ag^i);have h2:=bG (Y/ag^i);rw[G6];omega
theorem YW(X Y i:Nat):zH X Y i/2^32=vP X Y (i+1):=by
 show _/ag=_;unfold zH vP;rw[Nat.pow_succ,Nat.mod_mul,Nat.mod_mul,<-Nat.div_div_eq_div_mul]
 congr 1
 have e:X%ag^i+ag^i*(X/ag^i%ag)+(Y%ag^i+ag^i*(Y/ag^i%ag))=(X%ag^i+Y%ag^i)+ag^i*(X/ag^i%ag+Y/ag^i%ag):=(by rw[Nat.mul_add];omega);rw[e,Nat.add_mul_div_left _ _ (dh i)];omega
theorem VZ(X Y i:Nat):zH X Y i%4294967296=(X+Y)/ag^i%ag:=by
 show _%ag=_;have e:X+Y=(X%ag^i+Y%ag^i)+ag^i*(X/ag^i+Y/ag^i):=by
  have h1:=Nat.mod_add_div X (ag^i);have h2:=Nat.mod_add_div Y (ag^i);rw[Nat.mul_add];omega
 conv=>rhs;rw[e]
 rw[Nat.add_mul_div_left _ _ (dh i)];unfold zH
 generalize(X%ag^i+Y%ag^i)/ag^i=c
 generalize X/ag^i=p
 generalize Y/ag^i=q
 rw[Nat.add_assoc,Nat.add_mod,<-Nat.add_mod p q,<-Nat.add_mod]
theorem qdV(X Y i j:Nat):xk X Y (i+1) j=if j=i then zH X Y i%4294967296 else xk X Y i j:=by
 rw[VZ];unfold xk
 exact qgF
theorem qnI(X Y i:Nat):xk X Y i i=X/ag^i%ag:=by unfold xk;rw[if_neg ae]
theorem vS{Y i:Nat}(h:(ah ag Y).length<=i):Y/ag^i%ag=0:=by
 rw[Nat.div_eq_of_lt (Nat.lt_of_lt_of_le (dL dJ Y) (Nat.pow_le_pow_right au h))];rfl
def QS(X Y:Nat):NV .u32 (ah ag X)++(NV .u32 (List.replicate ((ah ag X).length+1) 0)).drop (ah ag X).length=NV .u32 (row ((ah ag X).length+1) (xk X Y 0)):=by
 rw[qbu,QG]
 congr 1
 have e:row ((ah ag X).length+1) (xk X Y 0)=row (ah ag X).length (fun j=>X/ag^j%ag)++[0]:=by
  unfold row;rw[List.range_succ,List.map_append]
  congr 1
  simp only[List.map_cons,List.map_nil,xk];rw[if_neg ae,vS (Nat.le_refl _)]
 rw[e,<-BL dJ X]
 congr 1
 simp
theorem V3{X Y:Nat}(h:(ah ag Y).length<=(ah ag X).length):val ag (row ((ah ag X).length+1) (xk X Y ((ah ag X).length+1)))=X+Y:=by
 rw[cu (g:=fun j=>(X+Y)/ag^j%ag) (fun j hj=>by unfold xk;rw[if_pos hj]),qf ag au,Nat.mod_eq_of_lt]
 have h1:=dL dJ X;have h2:=Nat.lt_of_lt_of_le (dL dJ Y) (Nat.pow_le_pow_right au h);rw[Nat.pow_succ];have:ag^(ah ag X).length*2<=ag^(ah ag X).length*ag:=Nat.mul_le_mul_left _ au;omega
def qbP(X Y i j:Nat):xk X Y i j<ag:=by unfold xk;split<;>exact bG _
def jQ{n k:Nat}(h:nb n<=k):(ah ag n).length<=(k+3)/4:=by rw[GR];omega
def lZ(m n i:Nat):Nat:=if m%ag^i<n%ag^i then 1 else 0
def Fj(m n i j:Nat):Nat:=if j<i then(m-n)/ag^j%ag else m/ag^j%ag
theorem qdW(m n:Nat):lZ m n 0=0:=by simp[lZ,Nat.mod_one]
def DU(m n i:Nat):lZ m n i<=1:=by unfold lZ;split<;>omega
def qnJ{m n i:Nat}(h:n<=m):(m-n)/ag^i+n/ag^i+lZ m n i=m/ag^i:=by
 have h1:=Nat.mod_add_div m (ag^i);have h2:=Nat.mod_add_div n (ag^i);have h3:=Nat.mod_lt m (dh i);have h4:=Nat.mod_lt n (dh i);have hp:=dh i
 generalize hP:ag^i=P at*
 generalize m/P=M at*
 generalize n/P=N at*
 unfold lZ;exact qp9
theorem QT(m n i:Nat):lZ m n (i+1)=if m/ag^i%ag<n/ag^i%ag+lZ m n i then 1 else 0:=by
 unfold lZ;rw[Nat.pow_succ,Nat.mod_mul,Nat.mod_mul];have h3:=Nat.mod_lt m (dh i);have h4:=Nat.mod_lt n (dh i)
 generalize m/ag^i%ag=x
 generalize n/ag^i%ag=y
 generalize hP:ag^i=P at*
 exact qgB
def qbQ{m n i:Nat}(h:n<=m)(hd:m/ag^i%ag<n/ag^i%ag+lZ m n i):m/ag^i%ag+4294967296=(m-n)/ag^i%ag+n/ag^i%ag+lZ m n i∧lZ m n (i+1)=1:=by
 refine⟨?_,by rw[QT,if_pos hd]⟩;exact qgH
def qbR{m n i:Nat}(h:n<=m)(hd:¬m/ag^i%ag<n/ag^i%ag+lZ m n i):m/ag^i%ag=(m-n)/ag^i%ag+n/ag^i%ag+lZ m n i∧lZ m n (i+1)=0:=by
 refine⟨?_,by rw[QT,if_neg hd]⟩;exact qgH
theorem qdX(m n i j:Nat):Fj m n (i+1) j=if j=i then(m-n)/ag^i%ag else Fj m n i j:=by
 unfold Fj
 exact qgF
theorem qnK(m n i:Nat):Fj m n i i=m/ag^i%ag:=by unfold Fj;rw[if_neg ae]
def qdY(m n:Nat):NV .u32 (ah ag m)++(NV .u32 (List.replicate (ah ag m).length 0)).drop (ah ag m).length=NV .u32 (row (ah ag m).length (Fj m n 0)):=by
 rw[qbu,QG]
 congr 1
 rw[cu (g:=fun j=>m/ag^j%ag) (fun j _=>by unfold Fj;rw[if_neg ae]),<-BL dJ m];simp
theorem qgL{m n:Nat}(h:n<=m):val ag (row (ah ag m).length (Fj m n (ah ag m).length))=m-n:=by
 rw[cu (g:=fun j=>(m-n)/ag^j%ag) (fun j hj=>by unfold Fj;rw[if_pos hj]),qf ag au,Nat.mod_eq_of_lt]
 have h1:=dL dJ m;omega
def qnL(m n i j:Nat):Fj m n i j<ag:=by unfold Fj;split<;>exact bG _
def uk(m n i:Nat):Nat:=m%ag^i*n
def Ei(m n i k:Nat):Nat:=(uk m n i/ag^i%ag^k+m/ag^i%ag*(n%ag^k))/ag^k
def I5(m n i k:Nat):Nat:=Ei m n i k+uk m n i/ag^(i+k)%ag+m/ag^i%ag*(n/ag^k%ag)
def KJ(m n i k j:Nat):Nat:=if j<i+k then uk m n (i+1)/ag^j%ag else uk m n i/ag^j%ag
def I7(m n i j:Nat):Nat:=uk m n i/ag^j%ag
theorem QU(m n i:Nat):uk m n (i+1)=uk m n i+ag^i*(m/ag^i%ag*n):=by
 unfold uk;exact YU
theorem QV(m n i:Nat):Ei m n i 0=0:=by simp[Ei,Nat.mod_one]
def qbS(m n i k:Nat):Ei m n i k<ag:=by
 unfold Ei;rw[Nat.div_lt_iff_lt_mul (dh k)];have h1:=Nat.mod_lt (uk m n i/ag^i) (dh k);have h2:=Nat.mod_lt n (dh k);have h3:m/ag^i%ag+1<=ag:=Nat.mod_lt _ au;have h4:(m/ag^i%ag)*(n%ag^k)<=(m/ag^i%ag)*(ag^k):=Nat.mul_le_mul_left _ ae;have h5:(m/ag^i%ag+1)*ag^k<=ag*ag^k:=Nat.mul_le_mul_right _ h3;rw[Nat.add_mul] at h5;omega
def qbT(p q:Nat):p%ag*(q%ag)<=18446744065119617025:=by
 have h1:p%ag<=4294967295:=(by have:=bG p;omega);have h2:q%ag<=4294967295:=(by have:=bG q;omega);exact Nat.mul_le_mul h1 h2
def TF(m n i k:Nat):I5 m n i k<18446744073709551616:=by
 have h1:=qbS m n i k;have h2:=bG (uk m n i/ag^(i+k));have h3:=qbT (m/ag^i) (n/ag^k);unfold I5 ag at*;omega
theorem BR(V i k:Nat):V/ag^(i+k)=V/ag^i/ag^k:=qqa
theorem YX(m n i k:Nat):I5 m n i k/2^32=Ei m n i (k+1):=by
 show _/ag=_;unfold I5 Ei;rw[BR,Nat.pow_succ,Nat.mod_mul,Nat.mod_mul,<-Nat.div_div_eq_div_mul]
 congr 1
 generalize m/ag^i%ag=dd
 generalize uk m n i/ag^i=A
 have e:A%ag^k+ag^k*(A/ag^k%ag)+dd*(n%ag^k+ag^k*(n/ag^k%ag))=(A%ag^k+dd*(n%ag^k))+ag^k*(A/ag^k%ag+dd*(n/ag^k%ag)):=dQ;rw[e,Nat.add_mul_div_left _ _ (dh k)];omega
theorem V4(m n i k:Nat):I5 m n i k%4294967296=uk m n (i+1)/ag^(i+k)%ag:=by
 show _%ag=_;unfold I5 Ei;rw[BR,BR,QU,Nat.add_mul_div_left _ _ (dh i)]
 generalize m/ag^i%ag=dd
 generalize uk m n i/ag^i=A
 have e:A+dd*n=(A%ag^k+dd*(n%ag^k))+ag^k*(A/ag^k+dd*(n/ag^k)):=by
  have h1:=Nat.mod_add_div A (ag^k);have h2:=Nat.mod_add_div n (ag^k)
  conv=>lhs;rw[<-h1,<-h2]
  grind
 conv=>rhs;rw[e]
 rw[Nat.add_mul_div_left _ _ (dh k)]
 generalize(A%ag^k+dd*(n%ag^k))/ag^k=c
 generalize A/ag^k=p
 generalize n/ag^k=q
 have e2:∀x y z w:Nat,(x+y%ag+z*(w%ag))%ag=(x+(y+z*w))%ag:=by
  intro x y z w;have h1:=Nat.mod_add_div y ag;have h2:=Nat.mod_add_div w ag;have:x+(y+z*w)=(x+y%ag+z*(w%ag))+ag*(y/ag+z*(w/ag)):=by
   conv=>lhs;rw[<-h1,<-h2]
   grind
  rw[this,Nat.add_mul_mod_self_left]
 exact e2 c p dd q
theorem qnM(m n i k:Nat):KJ m n i k (i+k)=uk m n i/ag^(i+k)%ag:=by unfold KJ;rw[if_neg ae]
theorem qdZ(m n i k j:Nat):KJ m n i (k+1) j=if j=i+k then I5 m n i k%4294967296 else KJ m n i k j:=by
 rw[V4];unfold KJ
 exact qgE
theorem qd0(m n i j:Nat):KJ m n i 0 j=I7 m n i j:=by
 unfold KJ I7
 split
 ·rename_i h
  rw[QU];have e0:ag^i=ag^j*(ag*ag^(i-j-1)):=by
   rw[<-Nat.mul_assoc,<-Nat.pow_succ,<-Nat.pow_add,show j+1+(i-j-1)=i by omega]
  have e:ag^i*(m/ag^i%ag*n)=ag^j*(ag*(ag^(i-j-1)*(m/ag^i%ag*n))):=by
   generalize m/ag^i%ag*n=r
   rw[e0,Nat.mul_assoc,Nat.mul_assoc]
  rw[e,Nat.add_mul_div_left _ _ (dh j),Nat.add_mul_mod_self_left]
 ·rfl
theorem LV(m n i:Nat):uk m n i<ag^(i+(ah ag n).length):=by
 unfold uk;rw[Nat.pow_add];have h1:=Nat.mod_lt m (dh i);have h2:=dL dJ n
 calc m%ag^i*n<=ag^i*n:=Nat.mul_le_mul_right _ (by omega)
  _<ag^i*ag^(ah ag n).length:=(Nat.mul_lt_mul_left (dh i)).2 h2
theorem qgM(m n i:Nat):Ei m n i (ah ag n).length%4294967296=uk m n (i+1)/ag^(i+(ah ag n).length)%ag:=by
 have h:=V4 m n i (ah ag n).length;unfold I5 at h;rw[vS (Nat.le_refl _),Nat.div_eq_of_lt (LV m n i)] at h
 simpa using h
theorem qd1(m n i j:Nat):I7 m n (i+1) j=if j=i+(ah ag n).length then Ei m n i (ah ag n).length%4294967296 else KJ m n i (ah ag n).length j:=by
 rw[qgM];unfold KJ I7
 by_cases e:j=i+(ah ag n).length
 ·subst e;rw[if_pos rfl]
 ·rw[if_neg e]
  by_cases c:j<i+(ah ag n).length
  ·rw[if_pos c]
  ·rw[if_neg c];have h1:ag^(i+(ah ag n).length)<=ag^j:=Nat.pow_le_pow_right au ae;have h2:ag^(i+1+(ah ag n).length)<=ag^j:=Nat.pow_le_pow_right au ae;rw[Nat.div_eq_of_lt (Nat.lt_of_lt_of_le (LV m n i) h1),Nat.div_eq_of_lt (Nat.lt_of_lt_of_le (LV m n (i+1)) h2)]
theorem qd2(m n j:Nat):I7 m n 0 j=0:=by simp[I7,uk,Nat.mod_one]
theorem qgN(m n:Nat):val ag (row ((ah ag m).length+(ah ag n).length+1) (I7 m n (ah ag m).length))=m*n:=by
 have e:uk m n (ah ag m).length=m*n:=(by unfold uk;rw[Nat.mod_eq_of_lt (dL dJ m)]);have h:=LV m n (ah ag m).length;rw[cu (g:=fun j=>m*n/ag^j%ag) (fun j hj=>by unfold I7;rw[e]),qf ag au,Nat.mod_eq_of_lt];exact qgG
def qnN(m n i j:Nat):I7 m n i j<ag:=bG _
def qd3{m n:Nat}(h:((m*n/18446744073709551616:Nat):Int)=0):m*n%18446744073709551616=m*n:=ae
def qgO(m n i k:Nat):uk m n i/ag^(i+k)%ag+m/ag^i%ag*(n/ag^k%ag)<18446744073709551616:=by
 have:=TF m n i k;unfold I5 at this;omega
def qd4(m n i k:Nat):((Ei m n i k:Nat):Int)+((uk m n i/ag^(i+k)%ag+m/ag^i%ag*(n/ag^k%ag):Nat):Int)=((I5 m n i k:Nat):Int):=by
 unfold I5;rw[<-Int.natCast_add,Nat.add_assoc]
def TG(m y p j:Nat):Nat:=if j<p then m/ag^j%ag else m/y/ag^j%ag
theorem qnO(m y q:Nat):TG m y (q+1) q=m/ag^q%ag:=by unfold TG;rw[if_pos ae]
def qgP(m q:Nat):m/ag^q=m/ag^(q+1)*ag+m/ag^q%ag:=by
 rw[Nat.pow_succ,<-Nat.div_div_eq_div_mul];have:=Nat.div_add_mod (m/ag^q) ag;rw[Nat.mul_comm] at this;omega
def KL(m y q:Nat):Nat:=m/ag^(q+1)%y*ag+m/ag^q%ag
def qbU(m y q:Nat)(hy:0<y):m/ag^q=y*(m/ag^(q+1)/y*ag)+KL m y q:=by
 have h1:=qgP m q;have h2:=Nat.div_add_mod (m/ag^(q+1)) y;unfold KL
 conv=>lhs;rw[h1,<-h2]
 rw[Nat.add_mul,Nat.mul_assoc,Nat.add_assoc]
def TJ(m y q:Nat)(hy:0<y):KL m y q<y*ag:=by
 unfold KL;have h1:m/ag^(q+1)%y+1<=y:=Nat.mod_lt _ hy;have h2:m/ag^q%ag<ag:=Nat.mod_lt _ au;have h3:=Nat.mul_le_mul_right ag h1;rw[Nat.add_mul] at h3;omega
def qd5(m y q:Nat)(hy:0<y)(hy2:y<4294967296):KL m y q<18446744073709551616:=by
 have h1:=TJ m y q hy;have h2:y*ag<=4294967295*ag:=Nat.mul_le_mul_right _ ae;have e:(ag:Nat)=4294967296:=rfl;rw[e] at h1 h2;omega
theorem V5(m y q:Nat)(hy:0<y):KL m y q/y=m/y/ag^q%ag:=by
 have h1:=qbU m y q hy;have h2:KL m y q/y<ag:=(by rw[Nat.div_lt_iff_lt_mul hy,Nat.mul_comm];exact TJ m y q hy);have e:m/y/ag^q=m/ag^q/y:=qqb;rw[e,h1,Nat.mul_add_div hy,Nat.mul_comm _ ag,Nat.mul_add_mod,Nat.mod_eq_of_lt h2]
theorem V6(m y q:Nat)(hy:0<y):KL m y q%y=m/ag^q%y:=by
 have h1:=qbU m y q hy
 conv=>rhs;rw[h1]
 rw[Nat.mul_add_mod]
theorem qd6(m y q j:Nat)(hy:0<y):TG m y q j=if j=q then KL m y q/y%4294967296 else TG m y (q+1) j:=by
 rw[V5 m y q hy];show _=if j=q then _%ag else _
 rw[Nat.mod_mod];unfold TG
 by_cases e:j=q
 ·subst e;rw[if_neg ae,if_pos rfl]
 ·rw[if_neg e]
  by_cases c:j<q
  ·exact BJ
  ·exact BK
def YY(m y:Nat):ah ag m=row (ah ag m).length (TG m y (ah ag m).length):=by
 conv=>lhs;rw[BL dJ m]
 exact cu fun j hj=>by unfold TG;rw[if_pos hj]
theorem YZ(m y:Nat):m/ag^(ah ag m).length%y=0:=by
 rw[Nat.div_eq_of_lt (dL dJ m)];simp
def qnP(m y j:Nat):Nat:=m/y/ag^j%ag
theorem qgQ(m y:Nat):val ag (row (ah ag m).length (qnP m y))=m/y:=by
 unfold qnP;rw[qf ag au,Nat.mod_eq_of_lt];exact Nat.lt_of_le_of_lt (Nat.div_le_self _ _) (dL dJ m)
def TK(m s i:Nat):Nat:=m%ag^i*2^s
def QW(m s i j:Nat):Nat:=TK m s i/ag^j%ag
def KN(m s i:Nat):Nat:=m/ag^i%ag*2^s
theorem NM(m s i:Nat):TK m s (i+1)=TK m s i+ag^i*KN m s i:=by
 unfold TK KN;exact YU
def zJ{s:Nat}(hs:s<32):2^s<=2147483648:=Nat.pow_le_pow_right (n:=2) ae (show s<=31 by omega)
def qsu(m s i:Nat)(hs:s<32):KN m s i<18446744073709551616:=by
 unfold KN;have h1:=bG (m/ag^i);have h2:=zJ hs;have:m/ag^i%ag*2^s<=4294967295*2147483648:=Nat.mul_le_mul ae h2;omega
def TL(m s i:Nat):TK m s i/ag^i<2^s:=by
 rw[Nat.div_lt_iff_lt_mul (dh i)];unfold TK;rw[Nat.mul_comm];exact(Nat.mul_lt_mul_left (Nat.pow_pos ae)).2 (Nat.mod_lt _ (dh i))
theorem xH{s:Nat}(hs:s<32):ag=2^s*2^(32-s):=by rw[<-Nat.pow_add,show s+(32-s)=32 by omega];rfl
def qbV(m s i:Nat)(hs:s<32):KN m s i%4294967296=2^s*(m/ag^i%ag%2^(32-s)):=by
 show _%ag=_;unfold KN
 conv=>lhs;rw[xH hs]
 rw[Nat.mul_comm _ (2^s),Nat.mul_mod_mul_left]
 congr 1
 rw[<-xH hs]
theorem qgR(m s i:Nat)(hs:s<32):QW m s i i=TK m s i/ag^i:=by
 unfold QW;have h1:=TL m s i;have h2:=zJ hs;exact Nat.mod_eq_of_lt (by unfold ag at*;omega)
def qgS(m s i:Nat)(hs:s<32):TK m s i/ag^i+KN m s i%4294967296<4294967296∧QW m s (i+1) i=TK m s i/ag^i+KN m s i%4294967296:=by
 have h1:=TL m s i;have e:=qbV m s i hs;have h3:m/ag^i%ag%2^(32-s)+1<=2^(32-s):=Nat.mod_lt _ (Nat.pow_pos ae);have h4:=Nat.mul_le_mul_left (2^s) h3;have hB:=xH hs;rw[<-hB,Nat.mul_add] at h4;have hlt:TK m s i/ag^i+KN m s i%4294967296<4294967296:=(by rw[e];unfold ag at*;omega);refine⟨hlt,?_⟩;unfold QW;rw[NM,Nat.add_mul_div_left _ _ (dh i)];have:TK m s i/ag^i+KN m s i=(TK m s i/ag^i+KN m s i%ag)+ag*(KN m s i/ag):=by
  have:=Nat.mod_add_div (KN m s i) ag;omega
 rw[this,Nat.add_mul_mod_self_left];exact Nat.mod_eq_of_lt hlt
theorem qnQ(m s i:Nat)(hs:s<32):QW m s (i+1) (i+1)=KN m s i/2^32%4294967296:=by
 have h0:=(qgS m s i hs).1;unfold QW;rw[NM,Nat.pow_succ,<-Nat.div_div_eq_div_mul,Nat.add_mul_div_left _ _ (dh i)];have:TK m s i/ag^i+KN m s i=(TK m s i/ag^i+KN m s i%ag)+ag*(KN m s i/ag):=by
  have:=Nat.mod_add_div (KN m s i) ag;omega
 have h0':TK m s i/ag^i+KN m s i%ag<ag:=h0;rw[this,Nat.add_mul_div_left _ _ au,Nat.div_eq_of_lt h0',Nat.zero_add]
 rfl
def qsv(m s i:Nat):TK m s i<ag^i*2^s:=(Nat.mul_lt_mul_right (Nat.pow_pos ae)).2 (Nat.mod_lt _ (dh i))
def shM(m s i j:Nat):Nat:=if j=i then QW m s (i+1) i else QW m s i j
theorem qgT(m s i j:Nat)(hs:s<32):QW m s (i+1) j=if j=i+1 then KN m s i/2^32%4294967296 else shM m s i j:=by
 by_cases e:j=i+1
 ·subst e;rw[if_pos rfl,qnQ m s i hs]
 ·rw[if_neg e];unfold shM
  by_cases e2:j=i
  ·subst e2;rw[if_pos rfl]
  ·rw[if_neg e2];unfold QW
   by_cases c:j<i
   ·rw[NM];have e0:ag^i=ag^j*(ag*ag^(i-j-1)):=by
     rw[<-Nat.mul_assoc,<-Nat.pow_succ,<-Nat.pow_add,show j+1+(i-j-1)=i by omega]
    rw[e0,Nat.mul_assoc,Nat.add_mul_div_left _ _ (dh j),Nat.mul_assoc,Nat.add_mul_mod_self_left]
   ·have h2:=zJ hs;have h3:ag^(i+2)<=ag^j:=Nat.pow_le_pow_right au ae;have key:∀k,k<=i+1->TK m s k/ag^j=0:=fun k hk=>Nat.div_eq_of_lt (by
 have h4:=qsv m s k;have h5:ag^k*2^s<=ag^(i+1)*ag:=Nat.mul_le_mul (Nat.pow_le_pow_right (by decide) hk) (by unfold ag;omega);rw[<-Nat.pow_succ] at h5;have h6:ag^(i+1).succ=ag^(i+2):=rfl;omega)
    rw[key (i+1) ae,key i ae]
theorem qgU(m s j:Nat):QW m s 0 j=0:=by simp[QW,TK,Nat.mod_one]
def PV(N j:Nat):Nat:=N/ag^j%ag
theorem qnR(m s j:Nat):QW m s (ah ag m).length j=PV (m*2^s) j:=by
 unfold QW PV TK;rw[Nat.mod_eq_of_lt (dL dJ m)]
def qvh(m s i:Nat)(hs:s<32):IntKind.u32.wrap ((BitVec.ofInt IntKind.u32.bits ((QW m s i i:Nat):Int)|||BitVec.ofInt IntKind.u32.bits ((KN m s i%4294967296:Nat):Int)).toNat)=((QW m s (i+1) i:Nat):Int):=by
 obtain⟨h1,h2⟩:=qgS m s i hs;rw[<-qgR m s i hs] at h1 h2;have e:=qbV m s i hs;rw[e] at h1 h2 ⊢;exact qbH s (by rw[qgR m s i hs];exact TL m s i) h2.symm (by rw[h2];exact h1) rfl rfl
theorem mV(k:Nat):ag^(k+1)=ag^k*ag:=Nat.pow_succ ..
def GOK(Y W L g r:Nat):Prop:=g*(Y/ag^(L-1))+r=W/ag^(L-1)∧r<4294967296∧W/Y<=g∧g<=4294967297
def yf(V L:Nat)(hL:2<=L):V=(V/ag^(L-1)*ag+V/ag^(L-2)%ag)*ag^(L-2)+V%ag^(L-2):=by
 have h1:=Nat.div_add_mod V (ag^(L-2));have h2:=qgP V (L-2);rw[show L-2+1=L-1 by omega] at h2;rw[<-h2,Nat.mul_comm];exact h1.symm
structure Fp(Y W L:Nat):Prop where
 hL:2<=L
 lo:ag^L<=2*Y
 hi:Y<ag^L
 w:W<Y*ag
def Fp.y1{Y W L:Nat}(h:Fp Y W L):2147483648<=Y/ag^(L-1)∧Y/ag^(L-1)<4294967296:=by
 have hp:=dh (L-1);have e:ag^L=ag^(L-1)*ag:=(by rw[<-mV,show L-1+1=L by have:=h.hL;omega]);have h1:=h.lo;have h2:=h.hi;rw[e] at h1 h2;refine⟨?_,?_⟩
 ·rw[Nat.le_div_iff_mul_le hp];have:ag^(L-1)*ag=2*(2147483648*ag^(L-1)):=qbM
  omega
 ·rw[Nat.div_lt_iff_lt_mul hp];rw[Nat.mul_comm] at h2;exact h2
theorem Fp.pos{Y W L:Nat}(h:Fp Y W L):0<Y:=by have:=h.lo;have:=dh L;omega
def Fp.wlt{Y W L:Nat}(h:Fp Y W L):W<ag^(L+1):=by
 have:=Nat.mul_le_mul_right ag (Nat.le_of_lt h.hi);rw[mV];exact Nat.lt_of_lt_of_le h.w this
def Fp.high{Y W L:Nat}(h:Fp Y W L):W/ag^(L-1)<(Y/ag^(L-1)+1)*ag:=by
 refine qmF (B:=ag) (yf Y L h.hL) (yf W L h.hL) (Nat.mod_lt _ (dh _)) (Nat.mod_lt _ au) (by rw[Nat.mul_comm];exact h.w)
def Fp.high64{Y W L:Nat}(h:Fp Y W L):W/ag^(L-1)<18446744073709551616:=by
 have h1:=h.wlt;rw[Nat.div_lt_iff_lt_mul (dh _)];have:ag^(L+1)=18446744073709551616*ag^(L-1):=by
  rw[show L+1=2+(L-1) by have:=h.hL;omega,Nat.pow_add];rfl
 omega
theorem Fp.q{Y W L:Nat}(h:Fp Y W L):W/Y<4294967296:=by
 rw[Nat.div_lt_iff_lt_mul h.pos,Nat.mul_comm];exact h.w
def qnS{Y W L:Nat}(h:Fp Y W L):GOK Y W L (W/ag^(L-1)/(Y/ag^(L-1))) (W/ag^(L-1)% (Y/ag^(L-1))):=by
 obtain⟨a1,a2⟩:=h.y1;have a3:=Nat.mod_lt (W/ag^(L-1)) (show 0<Y/ag^(L-1) by omega);refine⟨by rw[Nat.mul_comm];exact Nat.div_add_mod _ _,ae,?_,?_⟩
 ·exact Vm (B:=ag) (dh (L-2)) (yf Y L h.hL) (yf W L h.hL) (Nat.mod_lt _ (dh _)) (Nat.mod_lt _ au) ae h.pos
 ·have h1:=h.high;have:W/ag^(L-1)/(Y/ag^(L-1))<4294967298:=by
   rw[Nat.div_lt_iff_lt_mul ae];unfold ag at*;omega
  omega
def qgV{Y W L g r:Nat}(h:Fp Y W L)(hg:GOK Y W L g r)(ht:4294967296<=g∨r*2^32+W/ag^(L-2)%ag<g*(Y/ag^(L-2)%ag)):
 W/Y<g:=by
 rcases ht with ht|ht
 ·have:=h.q;omega
 ·exact Yf (B:=ag) (dh (L-2)) (yf Y L h.hL) (yf W L h.hL) (Nat.mod_lt _ (dh _)) hg.1 h.pos ht
def qqd{Y W L g r:Nat}(h:Fp Y W L)(hg:GOK Y W L g r)(hq:W/Y<g):(g-1)*(Y/ag^(L-1))+(r+Y/ag^(L-1))=W/ag^(L-1):=by
 have h0:0<g:=Nat.lt_of_le_of_lt (Nat.zero_le _) hq;obtain⟨k,rfl⟩:∃k,g=k+1:=⟨g-1,ae⟩;have:=hg.1;rw[Nat.add_mul] at this;simp only[Nat.add_sub_cancel];omega
def qsw{Y W L g r:Nat}(h:Fp Y W L)(hg:GOK Y W L g r)(hq:W/Y<g)(hr:r+Y/ag^(L-1)<4294967296):GOK Y W L (g-1) (r+Y/ag^(L-1)):=
 ⟨qqd h hg hq,hr,ae,by have:=hg.2.2.2;omega⟩
def qsx{Y W L g r:Nat}(h:Fp Y W L)(hg:GOK Y W L g r)(hB:g<4294967296)(ht:g*(Y/ag^(L-2)%ag)<=r*2^32+W/ag^(L-2)%ag):g<=W/Y+1:=by
 obtain⟨a1,a2⟩:=h.y1;exact Qy (B:=ag) (yf Y L h.hL) (yf W L h.hL) (Nat.mod_lt _ (dh _)) ae (Nat.mod_lt _ au) hg.1 h.pos qbM (.inl ht)
def qgW{Y W L g r:Nat}(h:Fp Y W L)(hg:GOK Y W L g r)(hq:W/Y<g)(hr:4294967296<=r+Y/ag^(L-1)):g-1<=W/Y+1:=by
 obtain⟨a1,a2⟩:=h.y1;have:=hg.2.2.2;exact Qy (B:=ag) (yf Y L h.hL) (yf W L h.hL) (Nat.mod_lt _ (dh _)) ae (Nat.mod_lt _ au) (qqd h hg hq) h.pos qbM (.inr hr)
def gC(Y g i:Nat):Nat:=g*(Y%ag^i)/ag^i
def gS(Y g i:Nat):Nat:=gC Y g i+g*(Y/ag^i%ag)
theorem qbW(Y g:Nat):gC Y g 0=0:=by simp[gC,Nat.mod_one]
def QX(Y g i:Nat)(hg:g<=4294967296):gC Y g i<=4294967295:=by
 unfold gC;have h1:=Nat.mod_lt Y (dh i);have:g*(Y%ag^i)/ag^i<4294967296:=by
  rw[Nat.div_lt_iff_lt_mul (dh i)];have h2:g*(Y%ag^i)<=4294967296*(Y%ag^i):=Nat.mul_le_mul_right _ hg;omega
 omega
def qbX(Y g i:Nat)(hg:g<=4294967296):gS Y g i<18446744073709551616∧g*(Y/ag^i%ag)<18446744073709551616:=by
 unfold gS;have h1:=QX Y g i hg;have h2:=bG (Y/ag^i);have h3:g*(Y/ag^i%ag)<=4294967296*4294967295:=Nat.mul_le_mul hg ae;omega
theorem qgX(Y g i:Nat):gS Y g i/2^32=gC Y g (i+1):=by
 show _/ag=_;unfold gS gC;rw[mV,Nat.mod_mul,<-Nat.div_div_eq_div_mul]
 congr 1
 have e:g*(Y%ag^i+ag^i*(Y/ag^i%ag))=g*(Y%ag^i)+ag^i*(g*(Y/ag^i%ag)):=dQ;rw[e,Nat.add_mul_div_left _ _ (dh i)]
theorem qsy(Y g i:Nat):gS Y g i%4294967296=g*Y/ag^i%ag:=by
 show _%ag=_;have e:g*Y=g*(Y%ag^i)+ag^i*(g*(Y/ag^i)):=by
  have h1:=Nat.mod_add_div Y (ag^i)
  conv=>lhs;rw[<-h1]
  grind
 rw[e,Nat.add_mul_div_left _ _ (dh i)];unfold gS gC
 generalize g*(Y%ag^i)/ag^i=c
 generalize Y/ag^i=p
 rw[Nat.add_mod,<-Nat.mul_mod_mod,Nat.mod_mod,Nat.mul_mod_mod,<-Nat.add_mod]
def xe(Y W L g:Nat):Nat:=W+ag^(L+1)-g*Y
def qgY{Y W L g:Nat}(h:Fp Y W L)(hg1:g<=W/Y+1):g*Y<=W+ag^(L+1):=by
 have h1:=Nat.mul_le_mul_right Y hg1;have h2:=Nat.div_mul_le_self W Y;rw[Nat.add_mul] at h1;have h3:=h.hi;have h4:ag^L<=ag^(L+1):=Nat.pow_le_pow_right au ae;omega
theorem NP{W L i:Nat}(hi:i<=L):(W+ag^(L+1))/ag^i%ag=W/ag^i%ag:=by
 have e:ag^(L+1)=ag^i*(ag*ag^(L-i)):=by
  rw[<-Nat.mul_assoc,<-mV,<-Nat.pow_add,show i+1+(L-i)=L+1 by omega]
 rw[e,Nat.add_mul_div_left _ _ (dh i),Nat.add_mul_mod_self_left]
def Vg(X W D j i k:Nat):Nat:=if k<j then X/ag^k%ag else if k<j+i then D/ag^(k-j)%ag else W/ag^(k-j)%ag
def qsz(X W D j i:Nat):Vg X W D j i (i+j)=W/ag^i%ag:=by
 unfold Vg;rw[if_neg ae,if_neg ae,show i+j-j=i by omega]
theorem V7(X W D j i k:Nat):Vg X W D j (i+1) k=if k=i+j then D/ag^i%ag else Vg X W D j i k:=by
 unfold Vg
 exact qgC
def xw(X j V k:Nat):Nat:=if k<j then X/ag^k%ag else V/ag^(k-j)%ag
def dvW(X Y j:Nat):Nat:=X/ag^(j+1)%Y*ag+X/ag^j%ag
def qsA(X Y j:Nat)(hy:0<Y):dvW X Y j<Y*ag:=TJ X Y j hy
theorem V8(X Y D j k:Nat):xw X (j+1) (X/ag^(j+1)%Y) k=Vg X (dvW X Y j) D j 0 k:=by
 unfold xw Vg dvW
 by_cases c:k<j
 ·rw[if_pos ae,if_pos c]
 ·rw[if_neg c,if_neg (by omega:¬k<j+0)]
  by_cases e:k=j
  ·subst e;rw[if_pos ae,Nat.sub_self,Nat.pow_zero,Nat.div_one,Nat.mul_comm,Nat.mul_add_mod,Nat.mod_mod]
  ·rw[if_neg ae];obtain⟨q,rfl⟩:∃q,k=j+1+q:=⟨k-j-1,ae⟩;rw[show j+1+q-(j+1)=q by omega,show j+1+q-j=q+1 by omega];have:(X/ag^(j+1)%Y*ag+X/ag^j%ag)/ag=X/ag^(j+1)%Y:=by
    rw[Nat.mul_comm,Nat.mul_add_div au,Nat.div_eq_of_lt (Nat.mod_lt _ au)];omega
   have e2:ag^(q+1)=ag*ag^q:=Nat.pow_succ';rw[e2,<-Nat.div_div_eq_div_mul (X/ag^(j+1)%Y*ag+X/ag^j%ag),this]
def qnU(X Y j:Nat)(hy:0<Y):dvW X Y j/Y=X/Y/ag^j%ag:=V5 X Y j hy
def qnV(X Y j:Nat)(hy:0<Y):dvW X Y j%Y=X/ag^j%Y:=V6 X Y j hy
theorem qgZ{X Y W L g j k:Nat}(h:Fp Y W L)(hg:g=W/Y):Vg X W (xe Y W L g) j (L+1) k=xw X j (W%Y) k:=by
 unfold Vg xw
 by_cases c:k<j
 ·rw[if_pos c,if_pos c]
 ·rw[if_neg c,if_neg c];have hD:xe Y W L g=W%Y+ag^(L+1):=by
   unfold xe;subst hg;have:=Nat.div_add_mod W Y;rw[Nat.mul_comm] at this;omega
  have hr:=Nat.mod_lt W h.pos
  by_cases c2:k<j+(L+1)
  ·rw[if_pos c2,hD,NP ae]
  ·rw[if_neg c2];have h1:ag^(L+1)<=ag^(k-j):=Nat.pow_le_pow_right au ae;have h2:=h.wlt;have h3:=h.hi;have h4:ag^L<=ag^(L+1):=Nat.pow_le_pow_right au ae;rw[Nat.div_eq_of_lt ae,Nat.div_eq_of_lt ae]
def abT(X Y W D L j i k:Nat):Nat:=if k<j then X/ag^k%ag else if k<j+i then(D+Y)/ag^(k-j)%ag else if k<j+(L+1) then D/ag^(k-j)%ag else W/ag^(k-j)%ag
def V9(X Y W D L j k:Nat):Vg X W D j (L+1) k=abT X Y W D L j 0 k:=by
 unfold Vg abT
 by_cases c:k<j
 ·rw[if_pos c,if_pos c]
 ·rw[if_neg c,if_neg c,if_neg (by omega:¬k<j+0)]
def qg0(X Y W D L j i:Nat)(hi:i<=L):abT X Y W D L j i (i+j)=D/ag^i%ag:=by
 unfold abT;rw[if_neg ae,if_neg ae,if_pos ae,show i+j-j=i by omega]
theorem We(X Y W D L j i k:Nat):abT X Y W D L j (i+1) k=if k=i+j then zH D Y i%4294967296 else abT X Y W D L j i k:=by
 rw[VZ];unfold abT
 exact qgC
def qsB{X Y W L g j k:Nat}(h:Fp Y W L)(hg:g=W/Y+1):abT X Y W (xe Y W L g) L j (L+1) k=xw X j (W%Y) k:=by
 have e:xe Y W L g+Y=xe Y W L (W/Y):=by
  have h1:=qgY h (g:=g) ae;unfold xe;subst hg;rw[Nat.add_mul] at h1 ⊢;omega
 rw[<-qgZ (X:=X) (j:=j) (k:=k) h rfl,<-e];unfold abT Vg
 by_cases c:k<j
 ·rw[if_pos c,if_pos c]
 ·rw[if_neg c,if_neg c]
  by_cases c2:k<j+(L+1)
  ·rw[if_pos c2,if_pos c2]
  ·rw[if_neg c2,if_neg c2,if_neg c2]
theorem qsC(D Y L:Nat)(hY:Y<ag^L):(D/ag^L%ag+vP D Y L%4294967296)%4294967296=zH D Y L%4294967296:=by
 rw[G6,show Y/ag^L%ag=0 by rw[Nat.div_eq_of_lt hY];rfl];omega
def qg1{Y W L g:Nat}(h:Fp Y W L)(h1:g<=W/Y+1)(h2:W/Y<=g)(hb:lZ (W+ag^(L+1)) (g*Y) (L+1)=1):g=W/Y+1:=by
 rcases Nat.lt_or_ge (W/Y) g with c|c
 ·omega
 ·exfalso
  have e:g=W/Y:=ae;subst e;unfold lZ at hb;have h3:=Nat.div_mul_le_self W Y;have h4:=h.wlt;rw[Nat.add_mod_right,Nat.mod_eq_of_lt h4,Nat.mod_eq_of_lt ae,if_neg ae] at hb;cases hb
def qsD{Y W L g:Nat}(h:Fp Y W L)(h1:g<=W/Y+1)(h2:W/Y<=g)(hB:g<=4294967296)(hb:lZ (W+ag^(L+1)) (g*Y) (L+1)=0):g=W/Y:=by
 rcases Nat.lt_or_ge (W/Y) g with c|c
 ·exfalso
  have e:g=W/Y+1:=ae;unfold lZ at hb;have h3:=Nat.div_add_mod W Y;have h4:=h.wlt;have h5:=Nat.mod_lt W h.pos;have h6:g*Y<ag^(L+1):=by
   rw[mV,Nat.mul_comm];exact Nat.mul_lt_mul_of_lt_of_le h.hi hB au
  rw[Nat.add_mod_right,Nat.mod_eq_of_lt h4,Nat.mod_eq_of_lt h6] at hb;have h7:g*Y=Y*(W/Y)+Y:=by rw[e,Nat.add_mul,Nat.mul_comm,Nat.one_mul]
  rw[if_pos ae] at hb;cases hb
 ·omega
theorem qnW{Y L g:Nat}(hY:Y<ag^L)(hB:g<=4294967296):gC Y g L=g*Y/ag^L%ag:=by
 have h1:gC Y g L=g*Y/ag^L:=(by unfold gC;rw[Nat.mod_eq_of_lt hY]);have h2:=QX Y g L hB;rw[h1] at h2 ⊢;exact(Nat.mod_eq_of_lt (by unfold ag at*;omega)).symm
def qsE{n:Nat}(h0:n≠0):∃s,s<32∧(32-(Lib.bitLen (n/ag^((ah ag n).length-1)%ag):Int))=((s:Nat):Int)∧ag^(ah ag n).length<=2*(n*2^s)∧n*2^s<ag^(ah ag n).length:=by
 have hlt:=dL dJ n;have hl:0<(ah ag n).length:=by
  rcases Nat.eq_zero_or_pos (ah ag n).length with h|h
  ·exact absurd ((xA dJ).1 (List.eq_nil_of_length_eq_zero h)) h0
  ·exact h
 generalize hL:(ah ag n).length=L at*
 obtain⟨k,rfl⟩:∃k,L=k+1:=⟨L-1,ae⟩;simp only[Nat.add_sub_cancel];have hk:ag^k<=n:=by
  rcases Nat.lt_or_ge n (ag^k) with h|h
  ·have:=iw dJ h;omega
  ·exact h
 have ht:n/ag^k<ag:=(by rw[Nat.div_lt_iff_lt_mul (dh k),Nat.mul_comm,<-mV];exact hlt);have ht0:0<n/ag^k:=Nat.div_pos hk (dh k);rw[Nat.mod_eq_of_lt ht];obtain⟨b1,b2,b3⟩:=yc (x:=n/ag^k) (Nat.lt_trans ht au) ae;have b4:Lib.bitLen (n/ag^k)<=32:=Lib.bitLen_le _ 32 ae ht
 generalize Lib.bitLen (n/ag^k)=b at*
 refine⟨32-b,ae,ae,?_,?_⟩
 ·have h1:2^(b-1)*ag^k<=n:=by
   have:=Nat.mul_le_mul_right (ag^k) b2;exact Nat.le_trans this (Nat.div_mul_le_self _ _)
  have h2:=Nat.mul_le_mul_right (2^(32-b)) h1;have h3:2^(b-1)*ag^k*2^(32-b)*2=ag^(k+1):=by
   have e:2^(b-1)*2^(32-b)*2=ag:=by
    rw[<-Nat.pow_add,<-Nat.pow_succ,show(b-1+(32-b)).succ=32 by omega];rfl
   rw[mV,<-e];grind
  omega
 ·have h1:n<2^b*ag^k:=by
   exact Nat.lt_mul_of_div_lt b3 (dh k)
  have h2:=(Nat.mul_lt_mul_right (a:=2^(32-b)) (Nat.pow_pos ae)).2 h1;have h3:2^b*ag^k*2^(32-b)=ag^(k+1):=by
   have e:2^b*2^(32-b)=ag:=(by rw[<-Nat.pow_add,show b+(32-b)=32 by omega];rfl);rw[mV,<-e];grind
  omega
def qnX{m n s:Nat}(hs:s<32)(hlen:(ah ag n).length<=(ah ag m).length)(h1:ag^(ah ag n).length<=2*(n*2^s)):m*2^s/ag^((ah ag m).length+1-(ah ag n).length)<n*2^s:=by
 rw[Nat.div_lt_iff_lt_mul (dh _)];have h2:=dL dJ m;have h3:=zJ hs;have h4:m*2^s<=m*2147483648:=Nat.mul_le_mul_left _ h3;have h5:ag^(ah ag n).length*ag^((ah ag m).length+1-(ah ag n).length)=ag^(ah ag m).length*ag:=by
  rw[<-Nat.pow_add,<-mV];congr 1;omega
 have h6:=Nat.mul_le_mul_right (ag^((ah ag m).length+1-(ah ag n).length)) h1;rw[h5,Nat.mul_assoc] at h6;have h7:ag^(ah ag m).length*ag=2*(2147483648*ag^(ah ag m).length):=qbM;omega
def qnY{X Y M k:Nat}(h:X/ag^M<Y):PV X k=xw X M (X/ag^M%Y) k:=by
 unfold xw PV;rw[Nat.mod_eq_of_lt h]
 split
 ·rfl
 ·rw[Nat.div_div_eq_div_mul,<-Nat.pow_add,show M+(k-M)=k by omega]
def TM{X Y W j:Nat}(hW:dvW X Y j=W)(k:Nat):xw X (j+1) (X/ag^(j+1)%Y) (k+j)=W/ag^k%ag:=by
 rw[V8 X Y 0 j,hW];unfold Vg;rw[if_neg ae,if_neg ae,show k+j-j=k by omega]
def qqe{X Y W j:Nat}(hW:dvW X Y j=W)(D k:Nat):xw X (j+1) (X/ag^(j+1)%Y) k=Vg X W D j 0 k:=by
 rw[V8 X Y D j,hW]
def Fp.whigh{Y W L:Nat}(h:Fp Y W L):2^32*(W/ag^L%ag)+W/ag^(L-1)%ag=W/ag^(L-1):=by
 have h1:=qgP W (L-1);rw[show L-1+1=L by have:=h.hL;omega] at h1;have h2:W/ag^L<ag:=(by rw[Nat.div_lt_iff_lt_mul (dh L),Nat.mul_comm,<-mV];exact h.wlt);rw[Nat.mod_eq_of_lt h2,Nat.mul_comm];exact h1.symm
def Fp.ytop{Y W L:Nat}(h:Fp Y W L):PV Y (L-1)=Y/ag^(L-1):=by
 unfold PV;exact Nat.mod_eq_of_lt h.y1.2
def qvi{p q:Nat}(hp:p<4294967296)(hq:q<4294967296):p*q<18446744073709551616:=by
 have:p*q<=4294967295*4294967295:=Nat.mul_le_mul ae ae;omega
def NQ{Y W L g i:Nat}(h:Fp Y W L)(hg1:g<=W/Y+1)(hi:i<=L)(hd:W/ag^i%ag<g*Y/ag^i%ag+lZ (W+ag^(L+1)) (g*Y) i):
 W/ag^i%ag+4294967296=xe Y W L g/ag^i%ag+g*Y/ag^i%ag+lZ (W+ag^(L+1)) (g*Y) i∧lZ (W+ag^(L+1)) (g*Y) (i+1)=1:=by
 have:=qbQ (i:=i) (qgY h hg1) (by rw[NP hi];exact hd);rw[NP hi] at this;exact this
def NR{Y W L g i:Nat}(h:Fp Y W L)(hg1:g<=W/Y+1)(hi:i<=L)(hd:¬W/ag^i%ag<g*Y/ag^i%ag+lZ (W+ag^(L+1)) (g*Y) i):
 W/ag^i%ag=xe Y W L g/ag^i%ag+g*Y/ag^i%ag+lZ (W+ag^(L+1)) (g*Y) i∧lZ (W+ag^(L+1)) (g*Y) (i+1)=0:=by
 have:=qbR (i:=i) (qgY h hg1) (by rw[NP hi];exact hd);rw[NP hi] at this;exact this
def qsF{Y W L g i:Nat}(h:Fp Y W L)(hg1:g<=W/Y+1)(hi:i<=L):IntKind.u32.wrap (((W/ag^i%ag:Nat):Int)-((lZ (W+ag^(L+1)) (g*Y) i:Nat):Int)-((g*Y/ag^i%ag:Nat):Int))=((xe Y W L g/ag^i%ag:Nat):Int):=by
 rw[qm5];have hD:=bG (xe Y W L g/ag^i)
 by_cases c:W/ag^i%ag<g*Y/ag^i%ag+lZ (W+ag^(L+1)) (g*Y) i
 ·have:=(NQ h hg1 hi c).1
  exact qgD
 ·have:=(NR h hg1 hi c).1
  exact qgD
def uS(X Y p k:Nat):Nat:=if k<p then 0 else X/Y/ag^k%ag
theorem qd8(X Y j k:Nat):uS X Y j k=if k=j then X/Y/ag^j%ag else uS X Y (j+1) k:=by
 unfold uS
 by_cases e:k=j
 ·subst e;rw[if_neg ae,if_pos rfl]
 ·rw[if_neg e]
  by_cases c:k<j
  ·exact BJ
  ·exact BK
def qnZ(X Y p k:Nat):uS X Y p k<ag:=by unfold uS;split;decide;exact bG _
theorem qn0{m n s M:Nat}(h0:n≠0)(h:m*2^s/ag^M<n*2^s):val ag (row M (uS (m*2^s) (n*2^s) 0))=m/n:=by
 have e:m*2^s/(n*2^s)=m/n:=Nat.mul_div_mul_right m n (Nat.pow_pos ae);rw[cu (g:=fun j=>m/n/ag^j%ag) (fun j _=>by unfold uS;rw[if_neg ae,e]),qf ag au,Nat.mod_eq_of_lt];have hp:0<n*2^s:=Nat.mul_pos ae (Nat.pow_pos ae);rw[<-e,Nat.div_lt_iff_lt_mul hp];rw[Nat.div_lt_iff_lt_mul (dh M)] at h;rw[Nat.mul_comm (n*2^s) (ag^M)] at h;exact h
def qbY(m n s k:Nat):xw (m*2^s) 0 (m*2^s/ag^0% (n*2^s)) k=m%n*2^s/ag^k%ag:=by
 unfold xw;rw[if_neg ae,Nat.sub_zero,Nat.pow_zero,Nat.div_one,Nat.mul_mod_mul_right]
def yT(r i k:Nat):Nat:=if k<i then r/ag^k%ag else 0
theorem Y2(r k:Nat):yT r 0 k=0:=by simp[yT]
theorem Y3(r i k:Nat):yT r (i+1) k=if k=i then r/ag^i%ag else yT r i k:=by
 unfold yT
 by_cases e:k=i
 ·exact YT
 ·rw[if_neg e]
  by_cases c:k<i
  ·exact BJ
  ·exact BK
def qg2(r i k:Nat):yT r i k<ag:=by unfold yT;split;exact bG _;decide
theorem qg3{m n:Nat}(h0:n≠0):val ag (row (ah ag n).length (yT (m%n) (ah ag n).length))=m%n:=by
 rw[cu (g:=fun j=>m%n/ag^j%ag) (fun j hj=>by unfold yT;rw[if_pos hj]),qf ag au,Nat.mod_eq_of_lt];exact Nat.lt_trans (Nat.mod_lt _ ae) (dL dJ n)
def qn1(V i:Nat):2^32*(V/ag^(i+1)%ag)+V/ag^i%ag=V/ag^i% (ag*ag):=by
 rw[Nat.mod_mul,mV,<-Nat.div_div_eq_div_mul];show ag*_+_=_;omega
def qn2(V i:Nat):V/ag^i% (ag*ag)<18446744073709551616:=Nat.mod_lt _ au
theorem qg4{r s i:Nat}(hs:s<32):r*2^s/ag^i% (ag*ag)/2^s%4294967296=r/ag^i%ag:=by
 show _%ag=_;have hp:0<2^s:=Nat.pow_pos ae;have e:ag*ag=2^s*(ag*2^(32-s)):=by
  have:=xH hs
  conv=>lhs;rw[this]
  rw[<-this];conv=>lhs;arg 1;rw[this]
  grind
 rw[e,Nat.mod_mul,Nat.add_mul_div_left _ _ hp,Nat.div_eq_of_lt (Nat.mod_lt _ hp),Nat.zero_add];have e2:r*2^s/ag^i/2^s=r/ag^i:=by
  rw[Nat.div_div_eq_div_mul,Nat.mul_comm (ag^i),<-Nat.div_div_eq_div_mul,Nat.mul_div_cancel _ hp]
 rw[e2,Nat.mod_mul_right_mod]
def qn3(Y g i:Nat):((gC Y g i:Nat):Int)+((g*(Y/ag^i%ag):Nat):Int)=((gS Y g i:Nat):Int):=by unfold gS;omega
def qd9(D Y i:Nat):((vP D Y i:Nat):Int)+((D/ag^i%ag+Y/ag^i%ag:Nat):Int)=((zH D Y i:Nat):Int):=by rw[G6];omega
def NS{m n:Nat}(h:decide (oD m n<0)=false):n<=m:=by
 have:=of_decide_eq_false h;unfold oD at this;rcases Nat.lt_or_ge m n with c|c
 ·rw[if_pos c] at this;exact absurd au this
 ·exact c
def QY{m n:Nat}(h:decide (oD m n<0)=true):m<n:=by
 have:=of_decide_eq_true h;unfold oD at this;rcases Nat.lt_or_ge m n with c|c
 ·exact c
 ·rw[if_neg ae] at this
  split at this<;>exact absurd this au
def qn4{n:Nat}(h0:n≠0):0<(ah ag n).length:=by
 rcases Nat.eq_zero_or_pos (ah ag n).length with h|h
 ·exact absurd ((xA dJ).1 (List.eq_nil_of_length_eq_zero h)) h0
 ·exact h
def qn5{n:Nat}(h:(ah ag n).length=1):n<4294967296:=by have:=dL dJ n;rw[h] at this;exact this
def qg5{n:Nat}(h1:(ah ag n).length=1)(hn:n<4294967296):(ah ag n)[0]? =some n:=by
 rw[tH dJ ae,Nat.pow_zero,Nat.div_one];exact congrArg some (Nat.mod_eq_of_lt hn)
theorem QZ{z:Int}(h:(!decide (nb z.natAbs<=8))=true):(if-9223372036854775808<=z∧z<=9223372036854775807 then z else 0)=0∧decide (-9223372036854775808<=z∧z<=9223372036854775807)=false:=by
 have h1:¬nb z.natAbs<=8:=pX;have h2:¬(-9223372036854775808<=z∧z<=9223372036854775807):=fun c=>h1 (oh ae)
 exact⟨if_neg h2,decide_eq_false h2⟩
theorem Q3{z:Int}(h: -9223372036854775808<=z∧z<=9223372036854775807):(if-9223372036854775808<=z∧z<=9223372036854775807 then z else 0)=z∧decide (-9223372036854775808<=z∧z<=9223372036854775807)=true:=⟨if_pos h,decide_eq_true h⟩
theorem Wh{z:Int}(h:¬(-9223372036854775808<=z∧z<=9223372036854775807)):(if-9223372036854775808<=z∧z<=9223372036854775807 then z else 0)=0∧decide (-9223372036854775808<=z∧z<=9223372036854775807)=false:=⟨if_neg h,decide_eq_false h⟩
def nb8{z:Int}(h:(!decide (nb z.natAbs<=8))=false):nb z.natAbs<=8:=pX
def lq(b:Bool)(s:ByteArray):Bool:=(s==⟨#[]⟩&&b)||s.data.toList.head? ==some 0
def qvj{s:ByteArray}(h:(s==⟨#[]⟩)=false):∃x l,s.data.toList=x::l:=by
 cases hl:s.data.toList with
 |nil=>
  exfalso
  rw[ui] at h;have:s=⟨#[]⟩:=ByteArray.ext QF;simp[this] at h
 |cons x l=>exact⟨x,l,rfl⟩
def Y4{s:ByteArray}(h:(s==⟨#[]⟩)=true):s=⟨#[]⟩:=by rw[ui] at h;simpa using h
def Wi(a b:Nat):Nat.gcd b (a%b)=Nat.gcd a b:=by rw[Nat.gcd_comm a b,Nat.gcd_rec b a,Nat.gcd_comm]
def Wj{a b:Int}(h:(a !=b)=false):a=b:=pX
def qbZ{x g:Nat}(h:x=g):(if false=true then-(x:Int) else(x:Int))=(g:Int):=by subst h;rfl
theorem qsG{b:Bool}{s:ByteArray}(he:s=⟨#[]⟩)(hb:b=true):lq b s=true:=by subst he;subst hb;unfold lq;rw[Bv];rfl
theorem qsH{b:Bool}{s:ByteArray}(he:s=⟨#[]⟩)(hb:b=false):¬lq b s=true:=by subst he;subst hb;unfold lq;simp
theorem qsI{b:Bool}{s:ByteArray}{x:UInt8}{l:List UInt8}(he:s.data.toList=x::l)(h:(((x.toNat:Nat):Int)==0)=true):lq b s=true:=by
 unfold lq;rw[he];have:x=0:=UInt8.toNat_inj.1 (by have:=eq_of_beq h;show x.toNat=0;omega);subst this;simp
theorem qsJ{b:Bool}{s:ByteArray}{x:UInt8}{l:List UInt8}(h0:(s==⟨#[]⟩)=false)(he:s.data.toList=x::l)(h:(((x.toNat:Nat):Int)==0)=false):¬lq b s=true:=by
 unfold lq;rw[he,h0];have:x≠0:=fun e=>by subst e;exact absurd h au
 simp[this]
def D8(n:Nat):List Nat:=ah 256 n
theorem lG(n:Nat):(D8 n).length=nb n:=rfl
def qsK{n i:Nat}(h:i<nb n):(D8 n)[i]? =some (n/256^i%256):=lD ae n i h
def xI(n q:Nat):n/256^q=n/256^(q+1)*256+n/256^q%256:=by
 rw[Nat.pow_succ,<-Nat.div_div_eq_div_mul];have:=Nat.div_add_mod (n/256^q) 256;omega
def Q4{a b q:Nat}(h:a/256^q<b/256^q):a<b:=by
 rcases Nat.lt_or_ge a b with c|c
 ·exact c
 ·have:=Nat.div_le_div_right (c:=256^q) c;omega
theorem Y5{a b:Nat}(h:nb a<nb b):oD a b= -1:=by unfold oD;rw[if_pos (qbN h)]
theorem Y6{a b:Nat}(h:nb b<nb a):oD a b=1:=by
 have:=qbN h;unfold oD;rw[if_neg ae,if_pos this]
theorem Y7{a b q:Nat}(he:a/256^(q+1)=b/256^(q+1))(h:a/256^q%256<b/256^q%256):oD a b= -1:=by
 have h1:=xI a q;have h2:=xI b q;have:a<b:=Q4 (q:=q) ae;unfold oD;rw[if_pos this]
theorem Y8{a b q:Nat}(he:a/256^(q+1)=b/256^(q+1))(h:b/256^q%256<a/256^q%256):oD a b=1:=by
 have h1:=xI a q;have h2:=xI b q;have:b<a:=Q4 (q:=q) ae;unfold oD;rw[if_neg ae,if_pos this]
def Y9{a b q:Nat}(he:a/256^(q+1)=b/256^(q+1))(h1:¬a/256^q%256<b/256^q%256)(h2:¬b/256^q%256<a/256^q%256):a/256^q=b/256^q:=by
 have e1:=xI a q;have e2:=xI b q;omega
def qn6{a b:Nat}(h:nb a=nb b):a/256^nb a=b/256^nb a:=by
 rw[Nat.div_eq_of_lt (kw a),h,Nat.div_eq_of_lt (kw b)]
theorem qn7{a b:Nat}(h:a/256^0=b/256^0):oD a b=0:=by
 have:a=b:=pX;subst this;unfold oD;rw[if_neg (Nat.lt_irrefl _),if_neg (Nat.lt_irrefl _)]
def qg6{n q:Nat}(h7:nb n<=7):n/256^q<72057594037927936:=by
 have h1:=pz h7;have:n/256^q<=n:=Nat.div_le_self _ _;omega
theorem qg7(n:Nat):row (nb n) (x9 n (nb n) (nb n))=(ah 256 n).reverse:=by
 apply List.ext_getElem?
 intro j
 by_cases hj:j<nb n
 ·rw[fK hj,List.getElem?_reverse (by exact hj)];have e:=lD (B:=256) ae n (nb n-1-j) qrD;unfold nb at e hj ⊢;rw[e];unfold x9;rw[if_pos ae]
 ·rw[List.getElem?_eq_none qV,List.getElem?_eq_none (by simp;unfold nb at hj;omega)]
theorem qn8(n:Nat):ah 256 (val 256 (D8 n))=D8 n:=by unfold D8;rw[sZ ae]
def Fq(n j:Nat):Nat:=n/256^j%256
def BU(n j:Nat):Fq n j<256:=Nat.mod_lt _ au
theorem NT(n:Nat):row (nb n) (Fq n)=D8 n:=(BL (B:=256) ae n).symm
def G8(k:IntKind)(i:Nat)(f:Nat->Nat)(d:Int)(h:d=((f i:Nat):Int)):NV k (row i f)++[.int k d]=NV k (row (i+1) f):=by
 subst h;unfold NV row;rw[List.range_succ,List.map_append,List.map_append];rfl
def one_cell(k:IntKind)(d:Int):∀v∈[Value.int k d],v.oneCell'=true:=by
 intro v hv;rw[List.mem_singleton.1 hv];rfl
def Q5{n i:Nat}(h:0<n/256^i):i<nb n:=by
 rcases Nat.lt_or_ge i (nb n) with c|c
 ·exact c
 ·rw[Nat.div_eq_of_lt (Nat.lt_of_lt_of_le (kw n) (gJ c))] at h;omega
def Q7{n i:Nat}(h:n/256^i=0)(hi:i<=nb n):i=nb n:=by
 have h1:n<256^i:=(Nat.div_eq_zero_iff_lt (Nat.pow_pos ae)).1 h;have:=oh h1;omega
theorem Za(n i:Nat):n/256^i/256=n/256^(i+1):=by rw[Nat.pow_succ,Nat.div_div_eq_div_mul]
def qqf(n:Nat):∀d∈D8 n,d<256:=DD ae
theorem JY(n:Nat):(ah 256 (val 256 (D8 n))).length=nb n:=by rw[qn8];rfl
theorem Wl(n:Nat):(ah 256 (val 256 (row (nb n) (Fq n)))).length=nb n:=by rw[NT,JY]
def qn9(n:Nat){neg:Bool}(h:neg=true):Value.agg #[.bool (decide ((0:Int)<nb n)),.string (bH n)]=I (if neg=true then-(n:Int) else(n:Int)):=by
 rw[if_pos h];have e:=EY (n:=n);unfold I;have h1:decide ((0:Int)<nb n)=decide (-(n:Int)<0):=by
  by_cases c:n=0
  ·subst c;rw[lU];rfl
  ·rw[decide_eq_true ae,decide_eq_true ae]
 rw[h1,Int.natAbs_neg,Int.natAbs_natCast]
def qoa(n:Nat){neg:Bool}(h:neg=false):Value.agg #[.bool false,.string (bH n)]=I (if neg=true then-(n:Int) else(n:Int)):=by
 subst h;rw[if_neg au];unfold I;rw[decide_eq_false ae,Int.natAbs_natCast]
end Go.Via
