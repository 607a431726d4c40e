/-
  Part 37 (chapter 32): lemmas, walks. Each theorem states its own conditions.
-/
import Derived.WalkSpells
import Derived.Lib.SliceRun
import Derived.Test.YtaffcpfhedadhaaGreatDoorA11
import Derived.Test.YtaffcpfhedadhaaGreatDoorA12
import Derived.Test.YtaffcpfhedadhaaGreatDoorA13
import Derived.Test.YtaffcpfhedadhaaGreatDoorA26
import Derived.Test.YtaffcpfhedadhaaGreatDoorA34
import Derived.Test.YtaffcpfhedadhaaGreatDoorA36
import Derived.Test.YtaffcpfhedadhaaGreatDoorA18
set_option linter.all false
set_option maxRecDepth 20000
set_option maxHeartbeats 20000000
namespace Go.Via
open Go
def S9(i:Iv):Int:=if(dN i.f&&dN i.t)=false then 5 else if jP i=false then 10 else 0
section
variable{l:List (Iv×Qd)}{pv:Option Iv}{p:oL}
def NZ{i:Iv}(h:S9 i=0):dN i.f=true∧dN i.t=true∧jP i=true:=by
 unfold S9 at h;cases h1:dN i.f<;>cases h2:dN i.t<;>cases h3:jP i<;>simp[h1,h2,h3] at h ⊢
def qko(h:S9 p.i≠0):nP l pv p=S9 p.i:=by
 unfold nP S9 at*;cases h1:dN p.i.f<;>cases h2:dN p.i.t<;>cases h3:jP p.i<;>simp[h1,h2,h3] at h ⊢
def qfG(h:S9 p.i=0)(h2:(dN p.a&&dN p.b)=false):nP l pv p=5:=by
 obtain⟨a,b,c⟩:=NZ h;unfold nP;rw[a,b,c,h2];rfl
def qme(h:S9 p.i=0)(h2:(dN p.a&&dN p.b)=true)(h4:zX pv p.i=true):nP l pv p=7:=by
 obtain⟨a,b,c⟩:=NZ h;unfold nP;rw[a,b,c,h2,h4];rfl
def qkp(h:S9 p.i=0)(h2:(dN p.a&&dN p.b)=true)(h4:zX pv p.i=false)(h5:Dh l p=true):nP l pv p=0:=by
 obtain⟨a,b,c⟩:=NZ h;unfold nP;rw[a,b,c,h2,h4,h5];rfl
def qgv(h:S9 p.i=0)(h2:(dN p.a&&dN p.b)=true)(h4:zX pv p.i=false)(h5:Dh l p=false):nP l pv p=30:=by
 obtain⟨a,b,c⟩:=NZ h;unfold nP;rw[a,b,c,h2,h4,h5];rfl
def qfH(h:nP l pv p=0):jP p.i=true:=by
 unfold nP at h;cases h1:dN p.i.f<;>cases h2:dN p.i.t<;>cases h3:jP p.i<;>simp[h1,h2,h3] at h ⊢
end
def Xf(p:oL)(x:Iv×Qd):Bool:=Pg x.1 p.i&&decide (bg (p.i,x.2)=p)
def ckB(cb:Option Nat):Nat->Option Addr
 |0=>none
 |i+1=>some ⟨cb.getD 0,i*38,none⟩
section
variable{a b:List PU}{c:List oL}{m:Rl}
def qkq(h:(ay a b).length=0):36=uZ a b c m:=by unfold uZ;rw[if_pos (by rw[List.length_eq_zero_iff.1 h];rfl)]
theorem Tc(h:(ay a b).length≠0):¬(ay a b).isEmpty=true:=fun e=>h (by rw[List.isEmpty_iff.1 e];rfl)
def qmf{e:Int}(h:(ay a b).length≠0)(hl:kE (nP (ay a b)) none c=e)(h0:e≠0):e=uZ a b c m:=by unfold uZ;rw[if_neg (Tc h),hl,if_pos h0]
def qkr(h:(ay a b).length≠0)(hl:kE (nP (ay a b)) none c=0)(hn:jE (c.map (·.i))≠jE ((ay a b).map (·.1))):12=uZ a b c m:=by
 unfold uZ;rw[if_neg (Tc h),hl,if_neg (by decide),if_pos hn]
def qmg(h:(ay a b).length≠0)(hl:kE (nP (ay a b)) none c=0)(hn:jE (c.map (·.i))=jE ((ay a b).map (·.1)))(hm:dN m=false):5=uZ a b c m:=by
 unfold uZ;rw[if_neg (Tc h),hl,if_neg (by decide),if_neg (fun k=>k hn),if_pos hm]
def qks(h:(ay a b).length≠0)(hl:kE (nP (ay a b)) none c=0)(hn:jE (c.map (·.i))=jE ((ay a b).map (·.1)))(hm:dN m=true)(hx:m≠fD c):30=uZ a b c m:=by
 unfold uZ;rw[if_neg (Tc h),hl,if_neg (by decide),if_neg (fun k=>k hn),hm,if_neg (by decide),if_pos hx]
def qmh(h:(ay a b).length≠0)(hl:kE (nP (ay a b)) none c=0)(hn:jE (c.map (·.i))=jE ((ay a b).map (·.1)))(hm:dN m=true)(hx:m=fD c):0=uZ a b c m:=by
 unfold uZ;rw[if_neg (Tc h),hl,if_neg (by decide),if_neg (fun k=>k hn),hm,if_neg (by decide),if_neg (fun k=>k hx)]
def qfI{S:Rl->Prop}{ρ:Rl->Int}(T:fZ S ρ)(hP:∀x∈ay a b,(S x.1.f∧S x.1.t)∧aT ρ x.1.b<aT ρ x.1.e)(h:(ay a b).length≠0)(hn:jE (c.map (·.i))=jE ((ay a b).map (·.1))):0<c.length:=by
 rcases Nat.eq_zero_or_pos c.length with h0|h0
 ·rw[List.length_eq_zero_iff.1 h0] at hn;have hS:jO S ((ay a b).map (·.1)):=fun i hi=>by obtain⟨x,hx,rfl⟩:=List.mem_map.1 hi;exact(hP x hx).1
  have hO:FU ρ ((ay a b).map (·.1)):=fun i hi=>by obtain⟨x,hx,rfl⟩:=List.mem_map.1 hi;exact(hP x hx).2
  have:=Ry T hS hO;rw[<-hn] at this;have e:(jE (([]:List oL).map (·.i))).isEmpty=true:=rfl;rw[e] at this;have e2:=List.isEmpty_iff.1 this.symm;exact absurd (by simpa using congrArg List.length e2) h
 ·exact h0
end
end Go.Via
namespace Go.Proofs.YtaffcpfhedadhaaGreatDoor
def qkt:Tryz.prog.underlying 103=some (.pointer 63):=by kernel_rfl
open Go Go.Via
def qgw{S:Rl->Prop}{ρ:Rl->Int}(T:fZ S ρ){x p:Iv}{v:Bool}(hx:S x.f∧S x.t)(hp:S p.f∧S p.t)(ox:aT ρ x.b<aT ρ x.e)(op:aT ρ p.b<aT ρ p.e)(sx:jB x<=50000)(sp:jB p<=50000)(h:Pg x p=v)(gx gp:Nat):
 bW Tryz.prog 102 [⟨some gx,61,bG x,20,false⟩,⟨some gp,61,bG p,20,false⟩] [az (some gx) 0 1 1,az (some gp) 0 1 1] Unit (fun _=> .bool v) (fun _=>[]):=by
 subst h;exact Ht T [x] (some gx) 20 1 (Nat.le_refl _) (by simp) [p] (some gp) 20 1 (Nat.le_refl _) (by simp) (EH hx) (EH hp) (fun j hj=>by rw[List.mem_singleton.1 hj];exact ox) (fun j hj=>by rw[List.mem_singleton.1 hj];exact op) (fun j hj=>by rw[List.mem_singleton.1 hj];exact sx) (fun j hj=>by rw[List.mem_singleton.1 hj];exact sp)
end Go.Proofs.YtaffcpfhedadhaaGreatDoor
namespace Go.Via
variable[Mo]
open Go Go.RowKit
section
variable{P:Program}{bl:List Nat}{ops:Array Oper}{K:St->Prop}{rest:List Oper}{nt:Nat}{t:List (Nat×Value)}{L:List aC}{d:Nat}{ty:TypeId}{pos:String}{af:Array Edge}{g:Option (Nat×Bool)}{x y:Operand}
def qfJ{T U e:Nat}{v:Option Addr}{n c:Nat}(hT:P.underlying T=some (.slice e))(hd:Nat.blt d nt=true)(hg:au ops ⟨some d,.binOp .eql T x y U,ty,pos,af,g⟩ t=some true)(hx:ev t x=some (.slice v n c))(hy:ev t y=some (.slice none 0 0))
 (h:aU P bl ops rest ⟨nt,(d,.bool v.isNone)::t,L⟩ K):aU P bl ops (⟨some d,.binOp .eql T x y U,ty,pos,af,g⟩::rest) ⟨nt,t,L⟩ K:=
 fG hd hg rfl (fun B a w hrel=>by
 have:=Lib.run_eql_slice_nil (P:=P) w T e v n c 0 0 hT;simp[execOp,hrel.ev hx,hrel.ev hy,eqGuard,this]) h
def BD{T U:Nat}{v:Option Addr}{te:TypeId}{r:Bool}(hT:P.underlying T=some (.pointer te))(hd:Nat.blt d nt=true)(hg:au ops ⟨some d,.binOp .neq T x y U,ty,pos,af,g⟩ t=some true)(hx:ev t x=some (.pointer v))(hy:ev t y=some (.pointer none))(hr:v.isSome=r)
 (h:aU P bl ops rest ⟨nt,(d,.bool r)::t,L⟩ K):aU P bl ops (⟨some d,.binOp .neq T x y U,ty,pos,af,g⟩::rest) ⟨nt,t,L⟩ K:=
 fG hd hg rfl (fun B a w hrel=>by
 subst hr;have h:∀d:Nat,(Op.equalIn (d+1) T (.pointer v) (.pointer none)).run P w= .ok v.isNone w:=fun d=>by
  cases v<;>simp[Op.equalIn,run_underlying hT]
 simp only[execOp,hrel.ev hx,hrel.ev hy,eqGuard,binOp];cases v<;>simp[Op.equal,Op.maxDepth,h 9999]) h
end
end Go.Via
namespace Go.Proofs.YtaffcpfhedadhaaGreatDoor
open Go Go.RowKit Go.Via
def Kz{S:Rl->Prop}{ρ:Rl->Int}(T:fZ S ρ)(l:List (Iv×Qd))(lb:Option Nat)(lN lc:Nat)(hlc:l.length<=lc)(hln:l.length<=1000)(hlS:∀x∈l,(S x.1.f∧S x.1.t)∧aT ρ x.1.b<aT ρ x.1.e)(hlz:∀x∈l,jB x.1<=1000∧tJ x.2<=10000)(c:List oL)(cb:Option Nat)(cN cc:Nat)(hcc:c.length<=cc)(hcn:c.length<=1000)(p:oL)(hp:S p.i.f∧S p.i.t)(hpz:jB p.i<=5000∧gz p.a<=5000∧gz p.b<=5000):bW Tryz.prog 48 [⟨lb,93,ah Df l,lN,false⟩,⟨cb,63,ah aY c,cN,false⟩] [az lb 0 l.length lc,JP p,.pointer none] Unit (fun _=> .int .i64 (nP l none p)) (fun _=>[]):=by
 refine⟨by kernel_rfl,fun w hL0=>?_⟩;obtain⟨hz1,hz2,hz3⟩:=hpz;refine ZM 63 Tryz.func48 hL0 ?_;refine A2 ?_;refine Bp 38 (fun g0=>?_);refine A7 ?_;refine xZ 2 0 ?_;refine Pc (pg p.i) ?_;refine A9 ?_;refine Cd ?_ ?_<;>intro haQ
 ·have r1:S9 p.i≠0:=by have e:=haQ;simpa[S9] using e
  refine A8 ?_;refine aF rfl (aj rfl) (fun w hL=>⟨(),?_,hL.pk []⟩);exact congrArg (fun e:Int=>Ending.returned (.int .i64 e)) (qko r1).symm
 ·have r1:S9 p.i=0:=by have e:=haQ;simpa[S9] using e
  obtain⟨r2,r3,r4⟩:=NZ r1;have hpo:=(ul T hp.1 hp.2).1 r4;refine A7 ?_;refine L9 2 20 ?_;refine Pc (jb p.a) ?_;refine A2 ?_;refine Rs 21 ?_ ?_<;>intro hbQ
  ·have r5:dN p.a=false:=by cases e:dN p.a<;>simp[e] at hbQ ⊢
   refine KU ?_;refine aF rfl (aj rfl) (fun w hL=>⟨(),?_,hL.pk []⟩);exact congrArg (fun e:Int=>Ending.returned (.int .i64 e)) (qfG r1 (by rw[r5];rfl)).symm
  ·have r5:dN p.a=true:=by cases e:dN p.a<;>simp[e] at hbQ ⊢
   refine A1 ?_;refine L9 2 29 ?_;refine Pc (jb p.b) ?_;refine A5 ?_;refine Cd ?_ ?_<;>intro hcQ
   ·have r6:dN p.b=false:=by cases e:dN p.b<;>simp[e] at hcQ ⊢
    refine A8 ?_;refine aF rfl (aj rfl) (fun w hL=>⟨(),?_,hL.pk []⟩);exact congrArg (fun e:Int=>Ending.returned (.int .i64 e)) (qfG r1 (by rw[r6,Bool.and_false])).symm
   ·have r6:dN p.b=true:=by cases e:dN p.b<;>simp[e] at hcQ ⊢
    refine A1 ?_;refine Di [] ?_;refine A1 ?_;refine BD qkt rfl rfl rfl rfl rfl ?_;refine A26 ?_;refine El (ι:={i:Nat // i<=l.length∧Dh l p=(l.drop i).any (Xf p)}) (fun⟨i,hi,hI⟩=>([(0,az lb 0 l.length lc),(40,az lb 0 l.length lc),(41,aZ (l.length)),(42,aZ i),(4,dD g0)],[⟨lb,93,ah Df l,lN,false⟩,⟨cb,63,ah aY c,cN,false⟩,⟨some g0,63,aY p,38,true⟩],l.length-i)) ⟨0,Nat.zero_le _,rfl⟩ ?_ (hL:=eH.auto);rintro⟨i,hi,hI⟩;(try dsimp only);refine A6 ?_;refine Cd ?_ ?_<;>intro hdQ
    ·have hlt:i<l.length:=(by have:=of_decide_eq_true hdQ;omega);obtain⟨x,hx⟩:∃x,l[i]? =some x:=⟨l[i],List.getElem?_eq_getElem hlt⟩;obtain⟨hxS,hxo⟩:=hlS x (List.mem_of_getElem? hx);obtain⟨hxz,hxf⟩:=hlz x (List.mem_of_getElem? hx);refine eF 0 rfl (nH.ne (by decide) (by omega)) (fun hbs=>?_);obtain⟨gl,hgl⟩:=Option.isSome_iff_exists.1 hbs;replace hgl:lb=some gl:=hgl;subst hgl;refine A6 ?_;refine ai 0 ((i)*32) u88 Lc rfl rfl rfl rfl rfl (by omega) (by omega) (nH.ne (by decide) (by omega)) (by show 0+Int.toNat _*32=_;omega) ?_;refine aI (v:=PtV x) 0 ((i)*32) _ rfl rfl rfl rfl Lc (nH.sub hx 0 32 (by decide)) rfl (by decide) rfl ?_;refine Al 32 z93 (fun g1=>?_);refine Ss 3 ?_;refine A3 ?_;refine Dq [3000000] [0,1,3,4,2,5,6,7,8,9,10,11,13,12,14,15] ?_;refine A1 ?_;refine xZ 3 0 ?_;refine A1 ?_;refine xZ 2 0 ?_;refine(Bl 20 [(0,_)]) (kT) (fun g2=>?_);refine(Bl 20 [(0,_)]) (kT) (fun g3=>?_);refine(Sd [4,5]) (qgw T hxS hp hxo hpo (by omega) (by omega) rfl g2 g3) ?_;refine A1 ?_;refine Rs 53 ?_ ?_<;>intro heQ
     ·have r8:Pg x.1 p.i=true:=heQ;refine A1 ?_;refine xZ 2 0 ?_;refine A1 ?_;refine uV 3 20 ?_;refine X4 2 0 ?_;refine dL [_,_] rfl rfl rfl (jq p.i x.2 ((Bz _).1 r2).r0 ((Bz _).1 r3).r0) ?_;refine fH rfl rfl rfl rfl qhm (qhN _ _) ?_;refine A3 ?_;refine Cd ?_ ?_<;>intro hfQ
      ·have r9:decide (bg (p.i,x.2)=p)=true:=hfQ;have hyes:Xf p x=true:=by unfold Xf;rw[r8,r9];rfl
       refine pq ?_;refine aF rfl (aj rfl) (fun w hL=>⟨(),?_,hL.pk []⟩);exact congrArg (fun e:Int=>Ending.returned (.int .i64 e)) (qkp r1 (by rw[r5,r6];rfl) rfl (by rw[hI,mO hx,hyes];rfl)).symm
      ·have r9:decide (bg (p.i,x.2)=p)=false:=hfQ;have hno:Xf p x=false:=by unfold Xf;rw[r8,r9];rfl
       refine A4 ?_;refine dh ?_;exact Nl ⟨i+1,hlt,by rw[hI,mO hx];simp only[hno,Bool.false_or]⟩ (hL:=eH.auto)
     ·have r8:Pg x.1 p.i=false:=heQ;have hno:Xf p x=false:=by unfold Xf;rw[r8,Bool.false_and]
      refine AL ?_;refine dh ?_;exact Nl ⟨i+1,hlt,by rw[hI,mO hx];simp only[hno,Bool.false_or]⟩ (hL:=eH.auto)
    ·have hge:i=l.length:=(by have:=of_decide_eq_false hdQ;omega);subst hge;refine pq ?_;refine aF rfl (aj rfl) (fun w hL=>⟨(),?_,hL.pk []⟩);exact congrArg (fun e:Int=>Ending.returned (.int .i64 e)) (qgv r1 (by rw[r5,r6];rfl) rfl (by rw[hI,List.drop_length];rfl)).symm
def KA{S:Rl->Prop}{ρ:Rl->Int}(T:fZ S ρ)(l:List (Iv×Qd))(lb:Option Nat)(lN lc:Nat)(hlc:l.length<=lc)(hln:l.length<=1000)(hlS:∀x∈l,(S x.1.f∧S x.1.t)∧aT ρ x.1.b<aT ρ x.1.e)(hlz:∀x∈l,jB x.1<=1000∧tJ x.2<=10000)(c:List oL)(gc cN cc:Nat)(hcc:c.length<=cc)(hcn:c.length<=1000)(p:oL)(hp:S p.i.f∧S p.i.t)(hpz:jB p.i<=5000∧gz p.a<=5000∧gz p.b<=5000)(j:Nat)(q:oL)(hq:c[j]? =some q)(hqz:jB q.i<=50000:=by omega):bW Tryz.prog 48 [⟨lb,93,ah Df l,lN,false⟩,⟨some gc,63,ah aY c,cN,false⟩] [az lb 0 l.length lc,JP p,.pointer (some ⟨gc,j*38,none⟩)] Unit (fun _=> .int .i64 (nP l (some q.i) p)) (fun _=>[]):=by
 refine⟨by kernel_rfl,fun w hL0=>?_⟩;obtain⟨hz1,hz2,hz3⟩:=hpz;refine ZM 63 Tryz.func48 hL0 ?_;refine A2 ?_;refine Bp 38 (fun g0=>?_);refine A7 ?_;refine xZ 2 0 ?_;refine Pc (pg p.i) ?_;refine A9 ?_;refine Cd ?_ ?_<;>intro haQ
 ·have r1:S9 p.i≠0:=by have e:=haQ;simpa[S9] using e
  refine A8 ?_;refine aF rfl (aj rfl) (fun w hL=>⟨(),?_,hL.pk []⟩);exact congrArg (fun e:Int=>Ending.returned (.int .i64 e)) (qko r1).symm
 ·have r1:S9 p.i=0:=by have e:=haQ;simpa[S9] using e
  obtain⟨r2,r3,r4⟩:=NZ r1;have hpo:=(ul T hp.1 hp.2).1 r4;refine A7 ?_;refine L9 2 20 ?_;refine Pc (jb p.a) ?_;refine A2 ?_;refine Rs 21 ?_ ?_<;>intro hbQ
  ·have r5:dN p.a=false:=by cases e:dN p.a<;>simp[e] at hbQ ⊢
   refine KU ?_;refine aF rfl (aj rfl) (fun w hL=>⟨(),?_,hL.pk []⟩);exact congrArg (fun e:Int=>Ending.returned (.int .i64 e)) (qfG r1 (by rw[r5];rfl)).symm
  ·have r5:dN p.a=true:=by cases e:dN p.a<;>simp[e] at hbQ ⊢
   refine A1 ?_;refine L9 2 29 ?_;refine Pc (jb p.b) ?_;refine A5 ?_;refine Cd ?_ ?_<;>intro hcQ
   ·have r6:dN p.b=false:=by cases e:dN p.b<;>simp[e] at hcQ ⊢
    refine A8 ?_;refine aF rfl (aj rfl) (fun w hL=>⟨(),?_,hL.pk []⟩);exact congrArg (fun e:Int=>Ending.returned (.int .i64 e)) (qfG r1 (by rw[r6,Bool.and_false])).symm
   ·have r6:dN p.b=true:=by cases e:dN p.b<;>simp[e] at hcQ ⊢
    refine A1 ?_;refine Di [] ?_;refine A1 ?_;refine BD qkt rfl rfl rfl rfl rfl ?_;refine A3 ?_;refine Fg (j*38) 0 ?_;refine aI (v:=kG q.i) 1 (j*38) _ rfl rfl rfl rfl iR (dA.sub hq 0 20 (by decide)) rfl (by decide) rfl ?_;refine A1 ?_;refine xZ 2 0 ?_;refine Pc (BJ q.i p.i) ?_;refine A5 ?_;refine Cd ?_ ?_<;>intro hdQ
    ·have r7:zX (some q.i) p.i=true:=hdQ;refine A8 ?_;refine aF rfl (aj rfl) (fun w hL=>⟨(),?_,hL.pk []⟩);exact congrArg (fun e:Int=>Ending.returned (.int .i64 e)) (qme r1 (by rw[r5,r6];rfl) r7).symm
    ·have r7:zX (some q.i) p.i=false:=hdQ;refine lw ?_;refine El (ι:={i:Nat // i<=l.length∧Dh l p=(l.drop i).any (Xf p)}) (fun⟨i,hi,hI⟩=>([(0,az lb 0 l.length lc),(40,az lb 0 l.length lc),(41,aZ (l.length)),(42,aZ i),(4,dD g0)],[⟨lb,93,ah Df l,lN,false⟩,⟨some gc,63,ah aY c,cN,false⟩,⟨some g0,63,aY p,38,true⟩],l.length-i)) ⟨0,Nat.zero_le _,rfl⟩ ?_ (hL:=eH.auto);rintro⟨i,hi,hI⟩;(try dsimp only);refine A6 ?_;refine Cd ?_ ?_<;>intro heQ
     ·have hlt:i<l.length:=(by have:=of_decide_eq_true heQ;omega);obtain⟨x,hx⟩:∃x,l[i]? =some x:=⟨l[i],List.getElem?_eq_getElem hlt⟩;obtain⟨hxS,hxo⟩:=hlS x (List.mem_of_getElem? hx);obtain⟨hxz,hxf⟩:=hlz x (List.mem_of_getElem? hx);refine eF 0 rfl (nH.ne (by decide) (by omega)) (fun hbs=>?_);obtain⟨gl,hgl⟩:=Option.isSome_iff_exists.1 hbs;replace hgl:lb=some gl:=hgl;subst hgl;refine A6 ?_;refine ai 0 ((i)*32) u88 Lc rfl rfl rfl rfl rfl (by omega) (by omega) (nH.ne (by decide) (by omega)) (by show 0+Int.toNat _*32=_;omega) ?_;refine aI (v:=PtV x) 0 ((i)*32) _ rfl rfl rfl rfl Lc (nH.sub hx 0 32 (by decide)) rfl (by decide) rfl ?_;refine Al 32 z93 (fun g1=>?_);refine Ss 3 ?_;refine A3 ?_;refine Dq [3000000] [0,1,3,4,2,5,6,7,8,9,10,11,13,12,14,15] ?_;refine A1 ?_;refine xZ 3 0 ?_;refine A1 ?_;refine xZ 2 0 ?_;refine(Bl 20 [(0,_)]) (kT) (fun g2=>?_);refine(Bl 20 [(0,_)]) (kT) (fun g3=>?_);refine(Sd [4,5]) (qgw T hxS hp hxo hpo (by omega) (by omega) rfl g2 g3) ?_;refine A1 ?_;refine Rs 53 ?_ ?_<;>intro hfQ
      ·have r8:Pg x.1 p.i=true:=hfQ;refine A1 ?_;refine xZ 2 0 ?_;refine A1 ?_;refine uV 3 20 ?_;refine X4 2 0 ?_;refine dL [_,_] rfl rfl rfl (jq p.i x.2 ((Bz _).1 r2).r0 ((Bz _).1 r3).r0) ?_;refine fH rfl rfl rfl rfl qhm (qhN _ _) ?_;refine A3 ?_;refine Cd ?_ ?_<;>intro hgQ
       ·have r9:decide (bg (p.i,x.2)=p)=true:=hgQ;have hyes:Xf p x=true:=by unfold Xf;rw[r8,r9];rfl
        refine pq ?_;refine aF rfl (aj rfl) (fun w hL=>⟨(),?_,hL.pk []⟩);exact congrArg (fun e:Int=>Ending.returned (.int .i64 e)) (qkp r1 (by rw[r5,r6];rfl) r7 (by rw[hI,mO hx,hyes];rfl)).symm
       ·have r9:decide (bg (p.i,x.2)=p)=false:=hgQ;have hno:Xf p x=false:=by unfold Xf;rw[r8,r9];rfl
        refine A4 ?_;refine dh ?_;exact Nl ⟨i+1,hlt,by rw[hI,mO hx];simp only[hno,Bool.false_or]⟩ (hL:=eH.auto)
      ·have r8:Pg x.1 p.i=false:=hfQ;have hno:Xf p x=false:=by unfold Xf;rw[r8,Bool.false_and]
       refine AL ?_;refine dh ?_;exact Nl ⟨i+1,hlt,by rw[hI,mO hx];simp only[hno,Bool.false_or]⟩ (hL:=eH.auto)
     ·have hge:i=l.length:=(by have:=of_decide_eq_false heQ;omega);subst hge;refine pq ?_;refine aF rfl (aj rfl) (fun w hL=>⟨(),?_,hL.pk []⟩);exact congrArg (fun e:Int=>Ending.returned (.int .i64 e)) (qgv r1 (by rw[r5,r6];rfl) r7 (by rw[hI,List.drop_length];rfl)).symm
end Go.Proofs.YtaffcpfhedadhaaGreatDoor
namespace Go.Proofs.YtaffcpfhedadhaaGreatDoor
open Go Go.RowKit Go.Via
def PR{S:Rl->Prop}{ρ:Rl->Int}(T:fZ S ρ)(l:List (Iv×Qd))(lb:Option Nat)(lN lc:Nat)(hlc:l.length<=lc)(hln:l.length<=1000)(hlS:∀x∈l,(S x.1.f∧S x.1.t)∧aT ρ x.1.b<aT ρ x.1.e)(hlz:∀x∈l,jB x.1<=1000∧tJ x.2<=10000)
 (c:List oL)(gc cN cc:Nat)(hcc:c.length<=cc)(hcn:c.length<=1000)(hcz:∀q∈c,jB q.i<=50000)(p:oL)(hp:S p.i.f∧S p.i.t)(hpz:jB p.i<=5000∧gz p.a<=5000∧gz p.b<=5000)(i:Nat)(hi:i<=c.length):
 bW Tryz.prog 48 [⟨lb,93,ah Df l,lN,false⟩,⟨some gc,63,ah aY c,cN,false⟩] [az lb 0 l.length lc,JP p,.pointer (ckB (some gc) i)] Unit (fun _=> .int .i64 (nP l (xW c i) p)) (fun _=>[]):=by
 cases i with
 |zero=>exact Kz T l lb lN lc hlc hln hlS hlz c (some gc) cN cc hcc hcn p hp hpz
 |succ i=>
  have hq:c[i]? =some c[i]:=List.getElem?_eq_getElem hi;rw[WS hq];exact KA T l lb lN lc hlc hln hlS hlz c gc cN cc hcc hcn p hp hpz i _ hq (hcz _ (List.mem_of_getElem? hq))
end Go.Proofs.YtaffcpfhedadhaaGreatDoor
namespace Go.Via
open Go
def qku{α:Type}{p:α->Prop}{a:List α}{i:Nat}{x:α}(hx:a[i]? =some x)(h:∀u∈a.take i,p u)(hp:p x):∀u∈a.take (i+1),p u:=fun u hu=>by
 rw[<-dZ hx] at hu;rcases List.mem_append.1 hu with h1|h1
 ·exact h u h1
 ·rw[List.mem_singleton.1 h1];exact hp
end Go.Via
namespace Go.Proofs.YtaffcpfhedadhaaGreatDoor
open Go Go.RowKit Go.Via
def uP{S:Rl->Prop}{ρ:Rl->Int}(T:fZ S ρ)(a:List PU)(ab:Option Nat)(aN ac:Nat)(hac:a.length<=ac)(han:a.length<=200)(b:List PU)(bb:Option Nat)(bN bc:Nat)(hbc:b.length<=bc)(hbn:b.length<=200)(hsa:Fb a)(hsb:Fb b)(H:EW a b)(c:List oL)(cb:Option Nat)(cN cc:Nat)(hcc:c.length<=cc)(hcn:c.length<=400)(m:Rl)(hcz:∀p∈c,jB p.i<=5000∧gz p.a<=5000∧gz p.b<=5000)(hmz:gz m<=5000)(hPS:∀x∈(ay a b),(S x.1.f∧S x.1.t)∧aT ρ x.1.b<aT ρ x.1.e)(hcS:∀p∈c,S p.i.f∧S p.i.t):bW Tryz.prog 16 [⟨ab,100,ah aJ a,aN,false⟩,⟨bb,100,ah aJ b,bN,false⟩,⟨cb,63,ah aY c,cN,false⟩] [az ab 0 a.length ac,az bb 0 b.length bc,CfV (az cb 0 c.length cc) m] Unit (fun _=> .int .i64 (uZ a b c m)) (fun _=>[]):=by
 refine⟨by kernel_rfl,fun w hL0=>?_⟩;have hpl:=tK a b;have hpz:=xR hsa hsb;refine ZM 78 Tryz.func16 hL0 ?_;refine A2 ?_;refine Bp 10 (fun g0=>?_);refine A7 ?_;refine(Sc [0,1]) (ou a ab aN ac hac (by omega) b bb bN bc hbc (by omega) hsa hsb) (fun zr=>?_);obtain⟨rb,rN,rc,hrc⟩:=zr;refine pq ?_;refine Cd ?_ ?_<;>intro haQ
 ·have hk0:(ay a b).length=0:=by have e:=haQ;simpa using e
  refine A7 ?_;refine aF rfl (aj rfl) (fun w hL=>⟨(),?_,hL.pk []⟩);exact congrArg (fun e:Int=>Ending.returned (.int .i64 e)) (qkq hk0)
 ·have hk0:(ay a b).length≠0:=by have e:=haQ;simpa using e
  refine A23 ?_;refine El (ι:={z:Nat×List Iv×Option Nat×Nat×Nat // z.1<=c.length∧z.2.1=(c.take z.1).map (·.i)∧z.2.1.length<=z.2.2.2.2∧z.2.2.2.2*20<=z.2.2.2.1∧kE (nP (ay a b)) none c=kE (nP (ay a b)) (xW c z.1) (c.drop z.1)∧∀q∈c.take z.1,jP q.i=true}) (fun⟨⟨i,o,ob,oN,oc⟩,hi,hI,h3,h4,hLL,hOK⟩=>([(5,dD g0),(7,az rb 0 (ay a b).length rc),(8,.pointer (ckB cb i)),(9,az ob 0 o.length oc),(10,.slice none 0 0),(23,az cb 0 c.length cc),(24,aZ (c.length)),(25,aZ i)],[⟨ab,100,ah aJ a,aN,false⟩,⟨bb,100,ah aJ b,bN,false⟩,⟨cb,63,ah aY c,cN,false⟩,⟨some g0,40,jK (az cb 0 c.length cc) m,10,true⟩,⟨rb,93,ah Df (ay a b),rN,true⟩,⟨ob,61,ah bG o,oN,true⟩],c.length-i)) ⟨⟨0,[],none,0,0⟩,Nat.zero_le _,rfl,Nat.le_refl _,by simp,rfl,fun q hq=>by simp at hq⟩ ?_ (hL:=(ak [some 0,some 1,some 2,some 3,some 4,none] ⟨pR,pR,pR,pR,pR,⟨rfl,rfl,rfl⟩,trivial⟩ rfl rfl));rintro⟨⟨i,o,ob,oN,oc⟩,hi,hI,h3,h4,hLL,hOK⟩;(try dsimp only);replace hi:i<=c.length:=hi;replace hI:o=(c.take i).map (·.i):=hI;replace h3:o.length<=oc:=h3;replace h4:oc*20<=oN:=h4;replace hLL:kE (nP (ay a b)) none c=kE (nP (ay a b)) (xW c i) (c.drop i):=hLL;replace hOK:∀q∈c.take i,jP q.i=true:=hOK
  have hol:o.length<=400:=(by rw[hI,List.length_map,List.length_take];omega);refine A6 ?_;refine Cd ?_ ?_<;>intro hbQ
  ·have hlt:i<c.length:=(by have:=of_decide_eq_true hbQ;omega);obtain⟨p,hp⟩:∃p,c[i]? =some p:=⟨c[i],List.getElem?_eq_getElem hlt⟩;have hpm:=List.mem_of_getElem? hp;refine eF 2 rfl (dA.ne (by decide) (by omega)) (fun hbs=>?_);obtain⟨gc,hgc⟩:=Option.isSome_iff_exists.1 hbs;replace hgc:cb=some gc:=hgc;subst hgc;refine A7 ?_;refine ai 2 ((i)*38) u32 pz rfl rfl rfl rfl rfl (by omega) (by omega) (dA.ne (by decide) (by omega)) (by show 0+Int.toNat _*38=_;omega) ?_;refine aI (v:=JP p) 2 ((i)*38) _ rfl rfl rfl rfl pz (dA.sub hp 0 38 (by decide)) rfl (by decide) rfl ?_;refine Al 38 z63 (fun g1=>?_);refine A1 ?_;refine Ss 6 ?_;refine A6 ?_;refine X4 6 0 ?_;refine A1 ?_;refine(Sd [4,2]) (PR T (ay a b) rb rN rc hrc (by omega) hPS (fun x hx=>⟨Nat.le_trans (hpz x hx).1 (by omega),Nat.le_trans (hpz x hx).2 (by omega)⟩) c gc cN cc hcc (by omega) (fun q hq=>Nat.le_trans (hcz q hq).1 (by omega)) p (hcS p hpm) (hcz p hpm) i hi) ?_;refine A9 ?_;refine Cd ?_ ?_<;>intro hcQ
   ·have he:nP (ay a b) (xW c i) p≠0:=by have e:=hcQ;simpa using e
    refine D5 ?_;refine aF rfl (aj rfl) (fun w hL=>⟨(),?_,hL.pk []⟩);exact congrArg (fun e:Int=>Ending.returned (.int .i64 e)) (qmf hk0 (qin hp hLL rfl he) he)
   ·have he:nP (ay a b) (xW c i) p=0:=by have e:=hcQ;simpa using e
    refine A7 ?_;refine ai 2 ((i)*38) u32 pz rfl rfl rfl rfl rfl (by omega) (by omega) (dA.ne (by decide) (by omega)) (by show 0+Int.toNat _*38=_;omega) ?_;refine A6 ?_;refine xZ 6 0 ?_;refine(Bl 20 [(0,_)]) (kT) (fun g2=>?_);refine(Qa (s:=20) (len:=o.length) (n2:=1) 5 7 (fun r=>[_,_,_,_,_,⟨some r.g,61,ah bG o++bG (p.i),r.n,true⟩,_,_]) FH Lh) (bu.length o) h3 h4 (bu.one (p.i)) (fun r=>?_);refine A5 ?_;refine dh ?_;exact Nl ⟨⟨i+1,o++[p.i],some r.g,r.n,r.cap⟩,hlt,by show o++[p.i]=(c.take (i+1)).map (·.i);rw[<-dZ hp,List.map_append,<-hI];rfl,by rw[List.length_append];exact r.h,r.hn,qkc hp hLL he,qku hp hOK (qfH he)⟩ (hμ:=(by show c.length-(i+1)<c.length-i;omega)) (ht:=⟨rfl,rfl,rfl,(aG rfl (by rw[List.length_append];rfl)),rfl,rfl,rfl,rfl,trivial⟩) (hL:=(ak [some 0,some 1,some 2,some 3,some 4,some 5] ⟨pR,pR,pR,pR,pR,⟨_,rfl,aK (by rw[dK])⟩,trivial⟩ rfl rfl))
  ·have hge:i=c.length:=(by have:=of_decide_eq_false hbQ;omega);subst hge;have hl0:=qio hLL;have hoe:o=c.map (·.i):=by rw[hI,List.take_length]
   refine D6 ?_;refine El (ι:={z:Nat×List Iv×Option Nat×Nat×Nat // z.1<=(ay a b).length∧z.2.1=((ay a b).take z.1).map (·.1)∧z.2.1.length<=z.2.2.2.2∧z.2.2.2.2*20<=z.2.2.2.1}) (fun⟨⟨j,q,qb,qN,qc⟩,hj,hJ,h5,h6⟩=>([(5,dD g0),(7,az rb 0 (ay a b).length rc),(9,az ob 0 o.length oc),(10,az qb 0 q.length qc),(47,az rb 0 (ay a b).length rc),(48,aZ ((ay a b).length)),(49,aZ j)],[⟨ab,100,ah aJ a,aN,false⟩,⟨bb,100,ah aJ b,bN,false⟩,⟨cb,63,ah aY c,cN,false⟩,⟨some g0,40,jK (az cb 0 c.length cc) m,10,true⟩,⟨rb,93,ah Df (ay a b),rN,true⟩,⟨ob,61,ah bG o,oN,true⟩,⟨qb,61,ah bG q,qN,true⟩],(ay a b).length-j)) ⟨⟨0,[],none,0,0⟩,Nat.zero_le _,rfl,Nat.le_refl _,by simp⟩ ?_ (hL:=(ak [some 0,some 1,some 2,some 3,some 4,some 5,none] ⟨pR,pR,pR,pR,pR,pR,⟨rfl,rfl,rfl⟩,trivial⟩ rfl rfl));rintro⟨⟨j,q,qb,qN,qc⟩,hj,hJ,h5,h6⟩;(try dsimp only);replace hj:j<=(ay a b).length:=hj;replace hJ:q=((ay a b).take j).map (·.1):=hJ;replace h5:q.length<=qc:=h5;replace h6:qc*20<=qN:=h6;have hql:q.length<=400:=by rw[hJ,List.length_map,List.length_take];omega
   refine A6 ?_;refine Cd ?_ ?_<;>intro hcQ
   ·have hjt:j<(ay a b).length:=(by have:=of_decide_eq_true hcQ;omega);obtain⟨y,hy⟩:∃y,(ay a b)[j]? =some y:=⟨_,List.getElem?_eq_getElem hjt⟩;refine eF 4 rfl (nH.ne (by decide) (by omega)) (fun hbs=>?_);obtain⟨gr,hgr⟩:=Option.isSome_iff_exists.1 hbs;replace hgr:rb=some gr:=hgr;subst hgr;refine A6 ?_;refine ai 4 ((j)*32) u88 Lc rfl rfl rfl rfl rfl (by omega) (by omega) (nH.ne (by decide) (by omega)) (by show 0+Int.toNat _*32=_;omega) ?_;refine aI (v:=PtV y) 4 ((j)*32) _ rfl rfl rfl rfl Lc (nH.sub hy 0 32 (by decide)) rfl (by decide) rfl ?_;refine Al 32 z93 (fun g1=>?_);refine Ss 7 ?_;refine A5 ?_;refine xZ 7 0 ?_;refine(Bl 20 [(0,_)]) (kT) (fun g2=>?_);refine(Qa (s:=20) (len:=q.length) (n2:=1) 6 8 (fun r=>[_,_,_,_,_,_,⟨some r.g,61,ah bG q++bG (y.1),r.n,true⟩,_,_]) FH Lh) (bu.length q) h5 h6 (bu.one (y.1)) (fun r=>?_);refine A5 ?_;refine Ar (((j+1:Nat):Int)) ?_;refine A3 ?_;exact Nl ⟨⟨j+1,q++[y.1],some r.g,r.n,r.cap⟩,hjt,by show q++[y.1]=((ay a b).take (j+1)).map (·.1);rw[<-dZ hy,List.map_append,<-hJ];rfl,by rw[List.length_append];exact r.h,r.hn⟩ (hμ:=(by show(ay a b).length-(j+1)<(ay a b).length-j;omega)) (ht:=⟨rfl,rfl,rfl,(aG rfl (by rw[List.length_append];rfl)),rfl,rfl,rfl,trivial⟩) (hL:=(ak [some 0,some 1,some 2,some 3,some 4,some 5,some 6] ⟨pR,pR,pR,pR,pR,pR,⟨_,rfl,aK (by rw[dK])⟩,trivial⟩ rfl rfl))
   ·have hge2:j=(ay a b).length:=(by have:=of_decide_eq_false hcQ;omega);subst hge2;have hqe:q=(ay a b).map (·.1):=by rw[hJ,List.take_length]
    refine kN ?_;have hoS:jO S o:=fun x hx=>by rw[hoe] at hx;obtain⟨z,hz,rfl⟩:=List.mem_map.1 hx;exact hcS z hz
    have hoK:FU ρ o:=fun x hx=>by rw[hoe] at hx;obtain⟨z,hz,rfl⟩:=List.mem_map.1 hx;exact(ul T (hcS z hz).1 (hcS z hz).2).1 (hOK z (by rw[List.take_length];exact hz))
    have hoz:∀x∈o,jB x<=50000:=fun x hx=>by rw[hoe] at hx;obtain⟨z,hz,rfl⟩:=List.mem_map.1 hx;exact Nat.le_trans (hcz z hz).1 (by omega)
    have hqS:jO S q:=fun x hx=>by rw[hqe] at hx;obtain⟨z,hz,rfl⟩:=List.mem_map.1 hx;exact(hPS z hz).1
    have hqK:FU ρ q:=fun x hx=>by rw[hqe] at hx;obtain⟨z,hz,rfl⟩:=List.mem_map.1 hx;exact(hPS z hz).2
    have hqz:∀x∈q,jB x<=50000:=fun x hx=>by rw[hqe] at hx;obtain⟨z,hz,rfl⟩:=List.mem_map.1 hx;exact Nat.le_trans (hpz z hz).1 (by omega)
    have hno:=NR orB o [];have hnq:=NR orB q [];replace hno:(jE o).length<=4*o.length:=hno;replace hnq:(jE q).length<=4*q.length:=hnq;refine(Sc [5]) (rQ T o ob oN oc h3 (by omega) hoS hoK hoz) (fun z1=>?_);refine A1 ?_;refine(Sc [6]) (rQ T q qb qN qc h5 (by omega) hqS hqK hqz) (fun z2=>?_);refine(Sd [7,8]) (J6 (jE o) z1.b z1.n z1.cap z1.h (by omega) (jE q) z2.b z2.n z2.cap z2.h) ?_;refine A4 ?_;refine Cd ?_ ?_<;>intro hdQ
    ·have r8:jE (c.map (·.i))≠jE ((ay a b).map (·.1)):=by have e:=hdQ;rw[hoe,hqe] at e;simpa using e
     refine A8 ?_;refine aF rfl (aj rfl) (fun w hL=>⟨(),?_,hL.pk []⟩);exact congrArg (fun e:Int=>Ending.returned (.int .i64 e)) (qkr hk0 hl0 r8)
    ·have r8:jE (c.map (·.i))=jE ((ay a b).map (·.1)):=by have e:=hdQ;rw[hoe,hqe] at e;simpa using e
     have hc0:=qfI T hPS hk0 r8;refine A3 ?_;refine L9 3 1 ?_;refine Pc (jb m hmz) ?_;refine A4 ?_;refine Cd ?_ ?_<;>intro heQ
     ·have r9:dN m=false:=by cases e:dN m<;>simp[e] at heQ ⊢
      refine A8 ?_;refine aF rfl (aj rfl) (fun w hL=>⟨(),?_,hL.pk []⟩);exact congrArg (fun e:Int=>Ending.returned (.int .i64 e)) (qmg hk0 hl0 r8 r9)
     ·have r9:dN m=true:=by cases e:dN m<;>simp[e] at heQ ⊢
      refine A1 ?_;refine Di [] ?_;refine A1 ?_;refine L9 3 1 ?_;refine A2 ?_;refine(Sd [2]) (pW c cb cN cc hcc (by omega) (fun p hp=>⟨Nat.le_trans (hcz p hp).2.1 (by omega),Nat.le_trans (hcz p hp).2.2 (by omega)⟩) hc0) ?_;refine DT rfl rfl rfl rfl OL (Pe _ _) ?_;refine A3 ?_;refine Cd ?_ ?_<;>intro hfQ
      ·have rx:m≠fD c:=by have e:=hfQ;simpa using e
       refine A8 ?_;refine aF rfl (aj rfl) (fun w hL=>⟨(),?_,hL.pk []⟩);exact congrArg (fun e:Int=>Ending.returned (.int .i64 e)) (qks hk0 hl0 r8 r9 rx)
      ·have rx:m=fD c:=by have e:=hfQ;simpa using e
       refine A9 ?_;refine aF rfl (aj rfl) (fun w hL=>⟨(),?_,hL.pk []⟩);exact congrArg (fun e:Int=>Ending.returned (.int .i64 e)) (qmh hk0 hl0 r8 r9 rx)
def YY(l:List PU)(lb:Option Nat)(lN lc:Nat)(hlc:l.length<=lc:=by omega)(hln:l.length<=1000:=by omega)(h0:0<l.length:=by omega):bW Tryz.prog 214 [⟨lb,201,ah aJ l,lN,false⟩] [az lb 0 l.length lc] (OR l.length 36) (fun r=>az r.b 0 l.length r.cap) (fun r=>[⟨r.b,201,ah aJ l,r.n,true⟩]):=by
 refine MI 8 Tryz.func214 fun w hL0=>?_;refine A7 ?_;refine eF 0 rfl (aB.ne (by decide) (by omega)) (fun hbs=>?_);obtain⟨gl,hgl⟩:=Option.isSome_iff_exists.1 hbs;replace hgl:lb=some gl:=hgl;subst hgl;refine A2 ?_;refine qfJ kU rfl rfl rfl rfl ?_;refine A7 ?_;refine(Bl 0 []) (qdR) (fun g0=>?_);refine A1 ?_;refine gG (s:=36) (len:=0) 1 0 (ah aJ l) (fun r=>[_,⟨r.b,201,ah aJ l,r.n,true⟩]) kU zI rfl rfl rfl rfl rfl rfl rfl rfl rfl rfl rfl (Nat.le_refl _) (Nat.le_refl _) (.inr ⟨_,rfl⟩) (by rw[List.drop_zero,<-aB.length l,List.take_length]) (aB.length l) (aB.ones _) (by omega) (fun _=>rfl) (fun r=>?_);refine A4 ?_;refine aF rfl (aj rfl) (fun w hL=>⟨⟨r.b,r.n,r.cap,Nat.le_trans (Nat.le_of_eq (Nat.zero_add _).symm) r.h,r.hn⟩,?_,hL.pk [some 1]⟩);exact congrArg (fun z=>Ending.returned (az r.b 0 z r.cap)) (Nat.zero_add _)
def Hu(l:List PU)(lb:Option Nat)(lN lc:Nat)(hlc:l.length<=lc)(hln:l.length<=1000)(hlN:lc*36<=lN)(h20:l.length<20)(hs:WY l)(hz:∀u∈l,jB u.i<=50000):BM Tryz.prog 237 [⟨lb,201,ah aJ l,lN,true⟩] [az lb 0 l.length lc,aZ (l.length),.func (.func 216) #[] #[]] Unit (fun _=> .tuple #[]) (fun _=>[⟨lb,201,ah aJ l,lN,true⟩]):=by
 refine⟨by kernel_rfl,fun B w hD hL0=>?_⟩;refine ZM 63 Tryz.func237 hL0 ?_;refine D6 ?_;refine El (ι:={u:Unit // True}) (fun⟨u,hu⟩=>([(0,az lb 0 l.length lc),(1,aZ (l.length)),(2,.func (.func 216) #[] #[]),(6,.int .i64 20),(7,.int .i64 0),(8,.int .i64 20)],[⟨lb,201,ah aJ l,lN,true⟩],0)) ⟨(),trivial⟩ ?_ (hL:=eH.auto);rintro⟨u,hu⟩;(try dsimp only);refine A8 ?_;refine Cd ?_ ?_<;>intro haQ
 ·exact absurd (of_decide_eq_true haQ) (by omega)
 ·refine A6 ?_;refine lV ?_;refine A4 ?_;refine Gm 1 [0] [] (fun _=>[_]) (qfs l lb lN lc hs hz hlc hlN) (fun _=>?_);refine A3 ?_;refine El (ι:={u:Unit // True}) (fun⟨u,hu⟩=>([(0,az lb 0 l.length lc),(1,aZ (l.length)),(2,.func (.func 216) #[] #[]),(6,.int .i64 20)],[⟨lb,201,ah aJ l,lN,true⟩],0)) ⟨(),trivial⟩ ?_ (hL:=eH.auto);rintro⟨u,hu⟩;(try dsimp only);refine A8 ?_;refine Cd ?_ ?_<;>intro hbQ
  ·exact absurd (of_decide_eq_true hbQ) (by omega)
  ·refine A4 ?_
   refine IU rfl (fun w hL=>⟨(),?_,hL.pk [some 0]⟩);exact rfl
def Gn(l:List PU)(lb:Option Nat)(lN lc:Nat)(hlc:l.length<=lc)(hln:l.length<=1000)(hlN:lc*36<=lN)(h20:l.length<20)(hs:WY l)(hz:∀u∈l,jB u.i<=50000):BM Tryz.prog 215 [⟨lb,201,ah aJ l,lN,true⟩] [az lb 0 l.length lc,.func (.func 216) #[] #[]] Unit (fun _=> .tuple #[]) (fun _=>[⟨lb,201,ah aJ l,lN,true⟩]):=by
 refine⟨by kernel_rfl,fun B w hD hL0=>?_⟩;refine XC 9 Tryz.func215 hL0 ?_;refine lV ?_;refine A4 ?_;refine Gm 1 [0] [] (fun _=>[_]) (Hu l lb lN lc hlc hln hlN h20 hs hz) (fun _=>?_);refine A1 ?_
 refine IU rfl (fun w hL=>⟨(),?_,hL.pk [some 0]⟩);exact rfl
def Hw(l:List PU)(lb:Option Nat)(lN lc:Nat)(hlc:l.length<=lc)(hln:l.length<=1000)(h0:0<l.length)(h20:l.length<20)(hs:WY l)(hz:∀u∈l,jB u.i<=50000):bW Tryz.prog 184 [⟨lb,201,ah aJ l,lN,false⟩] [az lb 0 l.length lc] (SR (l).length) SR.v (fun z=>[⟨z.b,201,ah aJ (l),z.n,true⟩]):=by
 refine MI 9 Tryz.func184 fun w hL0=>?_;refine A8 ?_;refine(Sc [0]) (YY l lb lN lc hlc hln h0) (fun z=>?_);obtain⟨ob,oN,oc,hoc,hoN⟩:=z;refine A4 ?_;refine lV ?_;refine A1 ?_;refine Gm 1 [1] [] (fun _=>[_,_]) (Gn l ob oN oc hoc hln hoN h20 hs hz) (fun _=>?_);refine A9 ?_;refine aF rfl (aj rfl) (fun w hL=>⟨⟨ob,oN,oc,hoc⟩,?_,hL.pk [some 1]⟩);exact rfl
def KD(t:Rl)(f:Ln)(o:List PU)(ob:Option Nat)(oN oc n0 gv:Nat)(hn0:n0=o.length)(h3:n0<=oc:=by omega)(h4:oc*36<=oN:=by omega)(hm:n0<=100000:=by omega):BM Tryz.prog 219 [⟨some gv,148,[az ob 0 n0 oc],1,true⟩,⟨ob,201,ah aJ o,oN,true⟩] [RV t,xh f,dD gv] (OR (n0+1) 36) (fun _=> .tuple #[]) (fun r=>[⟨some gv,148,[az r.b 0 (n0+1) r.cap],1,true⟩,⟨r.b,201,ah aJ (o++[yH t f]),r.n,true⟩]):=by
 refine⟨by kernel_rfl,fun B w hD hL0=>?_⟩;refine ZM 13 Tryz.func219 hL0 ?_;refine A2 ?_;refine Bp 9 (fun g0=>?_);refine Bp 16 (fun g1=>?_);refine A4 ?_;refine L9 2 0 ?_;refine L9 2 0 ?_;refine(Bu [(0,_),(1,_)]) (Jj) ?_;refine Kr 8 (kG ⟨t,t,false,false⟩) ?_;refine X3 3 0 ?_;refine(Bu [(0,_),(1,_)]) (Ed) ?_;refine Kr 10 (UG (yH t f)) ?_;refine(Bl 36 [(0,_)]) (qE) (fun g2=>?_);refine(Qa (s:=36) (len:=n0) (n2:=1) 1 4 (fun r=>[_,⟨some r.g,201,ah aJ o++aJ (yH t f),r.n,true⟩,_,_,_]) kU zI) (by exact(by rw[aB.length,hn0])) h3 h4 (aB.one (yH t f)) (fun r=>?_);refine Ss 0 ?_;refine A1 ?_
 refine IU rfl (fun w hL=>⟨⟨some r.g,r.n,r.cap,r.h,r.hn⟩,?_,hL.picks [some 0,some 1] ⟨pR,⟨_,rfl,aK (by rw[dK])⟩,trivial⟩ rfl rfl⟩);exact rfl
def Cc(l:List PU)(lb:Option Nat)(lN lc:Nat)(hlc:l.length<=lc)(hln:l.length<=1000)(t:Rl):bW Tryz.prog 188 [⟨lb,201,ah aJ l,lN,false⟩] [az lb 0 l.length lc,RV t] Unit (fun _=> .bool (oW l t)) (fun _=>[]):=by
 refine X5 31 Tryz.func188 fun w hL0=>?_;refine A2 ?_;refine Bp 9 (fun g0=>?_);refine pq ?_;refine qF 0 rfl (fun hba=>?_);have hlb:l.length=0∨∃g,lb=some g:=rF aB (by decide) hba;refine Di [] ?_ (hc:=(nV [0,1,3,7,7,23,63,127,255,511,7,2047,4095,8191,16383,16383,49151,131071,262143,524287,1048575,2097151,4194303,8388607] (by kernel_rfl)));refine A3 ?_;refine Rs 10 ?_ ?_<;>intro haQ
 ·have hlt:0<l.length:=(by have:=of_decide_eq_true haQ;omega);obtain⟨u,hu⟩:∃u,l[l.length-1]? =some u:=⟨_,List.getElem?_eq_getElem (by omega)⟩;obtain⟨gl,hgl⟩:=hlb.resolve_left (by omega);subst hgl;refine A2 ?_;refine(Aq ((l.length:Int)-1)) (by exact(congrArg some (wi (by omega) (by omega) rfl))) ?_;refine ai 0 ((l.length-1)*36) kU jD rfl rfl rfl rfl rfl (by omega) (by omega) (aB.ne (by decide) (by omega)) (by show 0+Int.toNat _*36=_;omega) ?_;refine Fg ((l.length-1)*36) 0 ?_;refine Fg ((l.length-1)*36+0) 9 ?_;refine aI (v:=RV u.i.t) 0 ((l.length-1)*36+0+9) _ rfl rfl rfl rfl iH (aB.sub hu 9 9 (by decide)) rfl (by decide) rfl ?_;refine L9 1 0 ?_;refine fH rfl rfl rfl rfl OL (Pe _ _) ?_;refine A2 ?_;refine Rs 21 ?_ ?_<;>intro hbQ
  ·have hut:decide (u.i.t=t)=true:=hbQ;refine A2 ?_;refine(Aq ((l.length:Int)-1)) (by exact(congrArg some (wi (by omega) (by omega) rfl))) ?_;refine ai 0 ((l.length-1)*36) kU jD rfl rfl rfl rfl rfl (by omega) (by omega) (aB.ne (by decide) (by omega)) (by show 0+Int.toNat _*36=_;omega) ?_;refine Fg ((l.length-1)*36) 0 ?_;refine Fg ((l.length-1)*36+0) 19 ?_;refine aI (v:= .bool u.i.tp) 0 ((l.length-1)*36+0+19) _ rfl rfl rfl rfl ti4 (aB.sub hu 19 1 (by decide)) rfl (by decide) rfl ?_;refine A6 ?_;refine aF rfl (aj rfl) (fun w hL=>⟨(),?_,hL.pk []⟩);rw[NU hu,hut];rfl
  ·have hut:decide (u.i.t=t)=false:=hbQ;refine D5 ?_;refine aF rfl (aj rfl) (fun w hL=>⟨(),?_,hL.pk []⟩);rw[NU hu,hut];rfl
 ·have hlt:¬0<l.length:=by have e:=of_decide_eq_false haQ;omega
  refine A24 ?_;refine aF rfl (aj rfl) (fun w hL=>⟨(),?_,hL.pk []⟩);rw[YT hlt]
end Go.Proofs.YtaffcpfhedadhaaGreatDoor
