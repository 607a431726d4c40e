/-
  Part 16 (chapter 32): lemmas, walks. Each theorem states its own conditions.
-/
import GoSem.Core.World
import Derived.MapKept
import Derived.WalkKit
import Derived.WalkSpells
import Derived.WalkLawsBesides
import Derived.Deep.LoopGhost
import Derived.Deep.AppendSrc
import Derived.Laws.BytesArg
import Derived.Laws.CopyRow
import Derived.Laws.AppendOwn
import Derived.Deep.Upon
import Derived.Laws.Small
import Derived.WideKeyEntry
import Derived.Test.YtaffcpfhedadhaaGreatDoorProg
import Derived.Shelf.Strings.Builder1
import Derived.Shelf.Strings.Builder2
import Derived.Shelf.Small.Utf8
import Derived.Shelf.Small.Bits
import Derived.Shelf.Small.Strs
import Derived.Shelf.Small.Wraps
import Derived.Shelf.Strings.BuilderF
import Derived.Shelf.Strconv.Itoa0
import Derived.Shelf.Strings.Search1
import Derived.Shelf.Strings.Prefix
import Derived.Shelf.Strings.Runes
import Derived.Shelf.Strings.AsciiSet
import Derived.Shelf.Bits.Mul64
import Derived.Shelf.Strings.Repeat
import Derived.Shelf.Unicode.DecodeSlow
import Derived.Laws.Externs
import Derived.Lib.ItoaNum
import Derived.Test.YtaffcpfhedadhaaGreatDoorA13
import Derived.Test.YtaffcpfhedadhaaGreatDoorA15
set_option linter.all false
set_option maxRecDepth 20000
set_option maxHeartbeats 20000000
section
variable{P Q:Prop}{T:Type}{R:T->Prop}
def qkv(h:P:=by rw[Nat.pow_add,Nat.div_div_eq_div_mul]):=h
end
namespace Go.Via
variable[Mo]
open Go Go.RowKit
section
variable{P:Program}{bl:List Nat}{ops:Array Oper}{K:St->Prop}{rest:List Oper}{nt:Nat}{t:List (Nat×Value)}{L:List aJ}{d:Nat}{ty:TypeId}{pos:String}{af:Array Edge}{g:Option (Nat×Bool)}{x y:Operand}
def ji{T:Nat}{j:Nat}{i:TI}{gg:Nat}(off fo:Nat){fs:Nat}(hd:Nat.blt d nt=true)(hg:az ops ⟨some d,.fieldAddr T x j,ty,pos,af,g⟩ t=some true)(hx:ev t x=some (.pointer (some ⟨gg,off,none⟩)))(hi:dO P T i=true)
 (hf:i.flds[j]? =some (fo,fs+1)){off':Nat}(ho:off+fo=off')(h:aY P bl ops rest ⟨nt,(d,.pointer (some ⟨gg,off',none⟩))::t,L⟩ K):
 aY P bl ops (⟨some d,.fieldAddr T x j,ty,pos,af,g⟩::rest) ⟨nt,t,L⟩ K:=
 fD hd hg rfl (fun B a w hr=>by
 have h2:=hr.ev hx;obtain⟨fs',f,h3,h4,h5,h6⟩:=qcA hi hf;simp only at h5 h6;have hsz:(sizeOf f.type).run P w= .ok (fs+1) w:=by
  cases hq:P.info? f.type with
  |none=>rw[hq] at h6;simp at h6
  |some inf=>rw[hq] at h6;simp at h6;simp[sizeOf,typeInfo,hq,h6]
 subst ho;simp[execOp,h2,Instr.fieldAt,run_underlying h3,h4,Instr.sureAddr,fieldPlace,hsz,jR,h5]) h
end
def KH{P:Program}{B:Bs}{Q:Exit->Act->World->Prop}{nt:Nat}{t:List (Nat×Value)}{L:List aJ}{id:Nat}{l l':List Oper}{X:Type}(Tm:X->List (Nat×Value))(Lm:X->List aJ)(E:List Nat)(n:Nat)(hm:P.follows .mixedOrders=true)
 (hc:(Region.noSelect l.toArray&&yL l.toArray (Array.replicate l.toArray.size false) E&&decide (E.length+n=l.toArray.size))=true)(hl:E.map (fun i=>l.toArray.getD i default)=l')
 (h:aY P [] l.toArray l' ⟨nt,t,[]⟩ (fun s'=>yG P l.toArray (fun s'=>∃x:X,s'.nt=nt∧jS s'.t (Tm x)∧List.Perm s'.L (Lm x)) n (E.foldl (fun(x:Array Bool) i=>x.setIfInBounds i true) (Array.replicate l.toArray.size false)) ⟨nt,s'.t,L⟩))
 (hk:∀x,At B ⟨nt,Tm x,Lm x⟩ (Q .normal)):
 At B ⟨nt,t,L⟩ ((Code.region id l.toArray true).wp P Q):=fun a w hr=>by
 simp only[Bool.and_eq_true,decide_eq_true_eq] at hc;obtain⟨⟨h1,h2⟩,h3⟩:=hc;subst hl;refine wp_region_any hm ?_
 suffices hs:wpAny P .any l.toArray Q (E.length+n) (Array.replicate l.toArray.size false) a {w with drawn:=w.drawn+1} by rw[h3] at hs;exact hs
 refine pG (Q:=qZ (Q .normal)) (Q':=Q) (fun _ _ h=>h) (fun _ _ _ h=>h.elim) (fun⟨_,_,h⟩=>h.elim) _ _ _ _ ?_;refine wF (B:=B) (G:=fun t listed=>yG P l.toArray (fun s'=>∃x:X,s'.nt=nt∧jS s'.t (Tm x)∧List.Perm s'.L (Lm x)) n listed ⟨nt,t,L⟩) h1 (fun t listed a hG hrel=>Jp (Q:=qZ (Q .normal)) (fun s' a' w' ⟨x,q1,q2,q3⟩ hr'=>hk x a' w' (by
 have:=hr'.sub (t:=Tm x) fun d v hd=>q2.mem (d,v) (uu hd)
 rw[q1] at this;exact⟨this.df,this.size,this.tmp,this.mem.perm q3⟩)) _ _ _ _ _ hG hrel) E _ t a h2 h hr.drew
end Go.Via
namespace Go.Via
variable[Mo]
open Go Go.RowKit
def QA{P:Program}{B:Bs}{s:St}{Q:Exit->Act->World->Prop}{x y:Code}{nt:Nat}(T:List (Nat×Value))(LL:List aJ)
 (h1:At B s (x.wp P (Exit.then (fun a w=>kQ B ⟨nt,T,LL⟩ a w) Q)))(h2:At B ⟨nt,T,LL⟩ (y.wp P Q)):At B s ((Code.seq x y).wp P Q):=
 VO fun a w hr=>Code.wp_mono (fun e a w h=>by
 cases e with
 |normal=>exact h2 a w h
 |_=>exact h) (h1 a w hr)
def rf{B:Bs}{nt:Nat}{t T:List (Nat×Value)}{L LL:List aJ}(lk:jS t T)(hw:dR L LL):At B ⟨nt,t,L⟩ (fun a w=>kQ B ⟨nt,T,LL⟩ a w):=fun a w hr=>
 ⟨hr.df,hr.size,fun d v hd=>hr.tmp d v (lk.mem (d,v) (uu hd)),hw _ _ hr.mem⟩
end Go.Via
namespace Go.Via
open Go
def sQ(m n i:Nat):Nat:=m%ag^i*n
def CQ(m n i k:Nat):Nat:=(sQ m n i/ag^i%ag^k+m/ag^i%ag*(n%ag^k))/ag^k
def GY(m n i k:Nat):Nat:=CQ m n i k+sQ m n i/ag^(i+k)%ag+m/ag^i%ag*(n/ag^k%ag)
def IP(m n i k j:Nat):Nat:=if j<i+k then sQ m n (i+1)/ag^j%ag else sQ m n i/ag^j%ag
def Fj(m n i j:Nat):Nat:=sQ m n i/ag^j%ag
theorem OI(m n i:Nat):sQ m n (i+1)=sQ m n i+ag^i*(m/ag^i%ag*n):=by
 unfold sQ;rw[Nat.pow_succ,Nat.mod_mul,Nat.add_mul,Nat.mul_assoc]
theorem OJ(m n i:Nat):CQ m n i 0=0:=by simp[CQ,Nat.mod_one]
def YU(m n i k:Nat):CQ m n i k<ag:=by
 unfold CQ;rw[Nat.div_lt_iff_lt_mul (dh k)];have h1:=Nat.mod_lt (sQ m n i/ag^i) (dh k);have h2:=Nat.mod_lt n (dh k);have h3:m/ag^i%ag+1<=ag:=Nat.mod_lt _ ax;have h4:(m/ag^i%ag)*(n%ag^k)<=(m/ag^i%ag)*(ag^k):=Nat.mul_le_mul_left _ ae;have h5:(m/ag^i%ag+1)*ag^k<=ag*ag^k:=Nat.mul_le_mul_right _ h3;rw[Nat.add_mul] at h5;omega
def YV(p q:Nat):p%ag*(q%ag)<=18446744065119617025:=by
 have h1:p%ag<=4294967295:=(by have:=bH p;omega);have h2:q%ag<=4294967295:=(by have:=bH q;omega);exact Nat.mul_le_mul h1 h2
def QB(m n i k:Nat):GY m n i k<18446744073709551616:=by
 have h1:=YU m n i k;have h2:=bH (sQ m n i/ag^(i+k));have h3:=YV (m/ag^i) (n/ag^k);unfold GY ag at*;omega
theorem Ap(V i k:Nat):V/ag^(i+k)=V/ag^i/ag^k:=qkv
theorem Ws(m n i k:Nat):GY m n i k/2^32=CQ m n i (k+1):=by
 show _/ag=_;unfold GY CQ;rw[Ap,Nat.pow_succ,Nat.mod_mul,Nat.mod_mul,<-Nat.div_div_eq_div_mul]
 congr 1
 generalize m/ag^i%ag=dd
 generalize sQ m n i/ag^i=A
 have e:A%ag^k+ag^k*(A/ag^k%ag)+dd*(n%ag^k+ag^k*(n/ag^k%ag))=(A%ag^k+dd*(n%ag^k))+ag^k*(A/ag^k%ag+dd*(n/ag^k%ag)):=kN;rw[e,Nat.add_mul_div_left _ _ (dh k)];omega
theorem Uc(m n i k:Nat):GY m n i k%4294967296=sQ m n (i+1)/ag^(i+k)%ag:=by
 show _%ag=_;unfold GY CQ;rw[Ap,Ap,OI,Nat.add_mul_div_left _ _ (dh i)]
 generalize m/ag^i%ag=dd
 generalize sQ m n i/ag^i=A
 have e:A+dd*n=(A%ag^k+dd*(n%ag^k))+ag^k*(A/ag^k+dd*(n/ag^k)):=by
  have h1:=Nat.mod_add_div A (ag^k);have h2:=Nat.mod_add_div n (ag^k)
  conv=>lhs;rw[<-h1,<-h2]
  grind
 conv=>rhs;rw[e]
 rw[Nat.add_mul_div_left _ _ (dh k)]
 generalize(A%ag^k+dd*(n%ag^k))/ag^k=c
 generalize A/ag^k=p
 generalize n/ag^k=q
 have e2:∀x y z w:Nat,(x+y%ag+z*(w%ag))%ag=(x+(y+z*w))%ag:=by
  intro x y z w;have h1:=Nat.mod_add_div y ag;have h2:=Nat.mod_add_div w ag;have:x+(y+z*w)=(x+y%ag+z*(w%ag))+ag*(y/ag+z*(w/ag)):=by
   conv=>lhs;rw[<-h1,<-h2]
   grind
  rw[this,Nat.add_mul_mod_self_left]
 exact e2 c p dd q
theorem qib(m n i k:Nat):IP m n i k (i+k)=sQ m n i/ag^(i+k)%ag:=by unfold IP;rw[if_neg ae]
theorem qaZ(m n i k j:Nat):IP m n i (k+1) j=if j=i+k then GY m n i k%4294967296 else IP m n i k j:=by
 rw[Uc];unfold IP
 by_cases e:j=i+k
 ·subst e;rw[if_pos ae,if_pos rfl]
 ·rw[if_neg e]
  by_cases c:j<i+k
  ·rw[if_pos c,if_pos ae]
  ·rw[if_neg c,if_neg ae]
theorem qa1(m n i j:Nat):IP m n i 0 j=Fj m n i j:=by
 unfold IP Fj
 split
 ·rename_i h
  rw[OI];have e0:ag^i=ag^j*(ag*ag^(i-j-1)):=by
   rw[<-Nat.mul_assoc,<-Nat.pow_succ,<-Nat.pow_add,show j+1+(i-j-1)=i by omega]
  have e:ag^i*(m/ag^i%ag*n)=ag^j*(ag*(ag^(i-j-1)*(m/ag^i%ag*n))):=by
   generalize m/ag^i%ag*n=r
   rw[e0,Nat.mul_assoc,Nat.mul_assoc]
  rw[e,Nat.add_mul_div_left _ _ (dh j),Nat.add_mul_mod_self_left]
 ·rfl
theorem Jv(m n i:Nat):sQ m n i<ag^(i+(ah ag n).length):=by
 unfold sQ;rw[Nat.pow_add];have h1:=Nat.mod_lt m (dh i);have h2:=dM dD n
 calc m%ag^i*n<=ag^i*n:=Nat.mul_le_mul_right _ (by omega)
  _<ag^i*ag^(ah ag n).length:=(Nat.mul_lt_mul_left (dh i)).2 h2
theorem qdB(m n i:Nat):CQ m n i (ah ag n).length%4294967296=sQ m n (i+1)/ag^(i+(ah ag n).length)%ag:=by
 have h:=Uc m n i (ah ag n).length;unfold GY at h;rw[yN (Nat.le_refl _),Nat.div_eq_of_lt (Jv m n i)] at h
 simpa using h
theorem qa3(m n i j:Nat):Fj m n (i+1) j=if j=i+(ah ag n).length then CQ m n i (ah ag n).length%4294967296 else IP m n i (ah ag n).length j:=by
 rw[qdB];unfold IP Fj
 by_cases e:j=i+(ah ag n).length
 ·subst e;rw[if_pos rfl]
 ·rw[if_neg e]
  by_cases c:j<i+(ah ag n).length
  ·rw[if_pos c]
  ·rw[if_neg c];have h1:ag^(i+(ah ag n).length)<=ag^j:=Nat.pow_le_pow_right ax ae;have h2:ag^(i+1+(ah ag n).length)<=ag^j:=Nat.pow_le_pow_right ax ae;rw[Nat.div_eq_of_lt (Nat.lt_of_lt_of_le (Jv m n i) h1),Nat.div_eq_of_lt (Nat.lt_of_lt_of_le (Jv m n (i+1)) h2)]
theorem qa4(m n j:Nat):Fj m n 0 j=0:=by simp[Fj,sQ,Nat.mod_one]
theorem Ud(m n:Nat):val ag (row ((ah ag m).length+(ah ag n).length+1) (Fj m n (ah ag m).length))=m*n:=by
 have e:sQ m n (ah ag m).length=m*n:=(by unfold sQ;rw[Nat.mod_eq_of_lt (dM dD m)]);have h:=Jv m n (ah ag m).length;rw[cu (g:=fun j=>m*n/ag^j%ag) (fun j hj=>by unfold Fj;rw[e]),pM ag ax,Nat.mod_eq_of_lt];rw[e] at h;exact Nat.lt_of_lt_of_le h (Nat.pow_le_pow_right ax ae)
def YW(m n i j:Nat):Fj m n i j<ag:=bH _
def qa5{m n:Nat}(h:((m*n/18446744073709551616:Nat):Int)=0):m*n%18446744073709551616=m*n:=ae
def qdC(m n i k:Nat):sQ m n i/ag^(i+k)%ag+m/ag^i%ag*(n/ag^k%ag)<18446744073709551616:=by
 have:=QB m n i k;unfold GY at this;omega
def qa6(m n i k:Nat):((CQ m n i k:Nat):Int)+((sQ m n i/ag^(i+k)%ag+m/ag^i%ag*(n/ag^k%ag):Nat):Int)=((GY m n i k:Nat):Int):=by
 unfold GY;rw[<-Int.natCast_add,Nat.add_assoc]
end Go.Via
