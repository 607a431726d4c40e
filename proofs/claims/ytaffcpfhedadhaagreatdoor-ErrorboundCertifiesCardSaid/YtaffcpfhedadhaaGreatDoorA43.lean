/-
  Part 43 (chapter 32): lemmas, walks. Each theorem states its own conditions.
-/
import Derived.Test.YtaffcpfhedadhaaGreatDoorA12
import Derived.Test.YtaffcpfhedadhaaGreatDoorA13
import Derived.Test.YtaffcpfhedadhaaGreatDoorA28
import Derived.Test.YtaffcpfhedadhaaGreatDoorA32
import Derived.Test.YtaffcpfhedadhaaGreatDoorA33
import Derived.Test.YtaffcpfhedadhaaGreatDoorA36
import Derived.Test.YtaffcpfhedadhaaGreatDoorA37
import Derived.Test.YtaffcpfhedadhaaGreatDoorA39
import Derived.Test.YtaffcpfhedadhaaGreatDoorA41
import Derived.Test.YtaffcpfhedadhaaGreatDoorA42
set_option linter.all false
set_option maxRecDepth 20000
set_option maxHeartbeats 20000000
namespace Go.Proofs.YtaffcpfhedadhaaGreatDoor
open Go Go.RowKit Go.Via
def wB(sm:Rl->Rl->Option Rat)(hsm:∀x y r,sm x y=some r->aH Tryz.prog 235 #[RV x,RV y] (Q r))(q:Qd)(i:Iv)(wn wz wp:Bool)(r:List Iv)(h:rU sm (mV wn wz wp) q i=some r)(hno:∀l,gV sm q i (dI q) i []=some l->E5 (mV wn wz wp) false l=true)(hf:dN i.f=true)(ht:dN i.t=true)(hoi:jP i=true)(hrt:bW Tryz.prog 170 [] [qH q] (SR (dI q).length) (fun z=> .tuple #[z.v,.int .i64 0]) (fun z=>[⟨z.b,38,ah jX (dI q),z.n,true⟩]))(hrz:∀r∈dI q,gz r<=1000∧dN r=true)(hrl:(dI q).length<=2)(hln:∀l,gV sm q i (dI q) i []=some l->l.length<=100)(hq:tJ q<=10000:=by omega)(hi:jB i<=1000:=by omega):bW Tryz.prog 76 [] [qH q,kG i,.bool wn,.bool wz,.bool wp] (SR r.length) (fun z=> .tuple #[z.v,.int .i64 0]) (fun z=>[⟨z.b,61,ah bG r,z.n,true⟩]):=by
 refine⟨by kernel_rfl,fun w hL0=>?_⟩;obtain⟨l,hsg,hr⟩:=Tn h;have hll:=hln l hsg;have hrg:=yK (by simp) hsg;refine cB5 75 Tryz.func76 hL0 ?_;refine A2 ?_;refine Bp 12 (fun g0=>?_);refine Bp 20 (fun g1=>?_);refine A6 ?_;refine uV 0 0 ?_;refine xZ 1 0 ?_;refine(Sc []) (EZ sm hsm q i l hsg hf ht hoi hrt hrz hrl hq hi) (fun z=>?_);obtain⟨lb,lN,lc,hlc⟩:=z;refine lw ?_;refine(Bu [(0,_),(1,_),(2,_)]) (qdH) ?_;refine Al 3 qlo (fun g2=>?_);refine Ss 3 ?_;refine A21 ?_;refine El (ι:={z:Nat×Bool×List Iv×Option Nat×Nat×Nat // z.1<=l.length∧nI (mV wn wz wp) l [] false=nI (mV wn wz wp) (l.drop z.1) z.2.2.1 z.2.1∧E5 (mV wn wz wp) z.2.1 (l.drop z.1)=true∧z.2.2.1.length<=z.1∧z.2.2.1.length<=z.2.2.2.2.2∧z.2.2.2.2.2*20<=z.2.2.2.2.1}) (fun⟨⟨k,bef,o,ob,oN,oc⟩,hk,hI,hna,ho,h3,h4⟩=>([(13,.int .i64 0),(14,dD g2),(15,az ob 0 o.length oc),(16,.bool bef),(30,az lb 0 l.length lc),(31,aZ (l.length)),(32,aZ k)],[⟨lb,181,ah EE l,lN,true⟩,⟨some g2,130,[.bool wn,.bool wz,.bool wp],3,true⟩,⟨ob,61,ah bG o,oN,true⟩],l.length-k)) ⟨⟨0,false,[],none,0,0⟩,Nat.zero_le _,rfl,hno l hsg,Nat.le_refl _,Nat.le_refl _,by simp⟩ ?_ (hL:=(ak [some 2,some 3,none] ⟨pR,pR,⟨rfl,rfl,rfl⟩,trivial⟩ rfl rfl));rintro⟨⟨k,bef,o,ob,oN,oc⟩,hk,hI,hna,ho,h3,h4⟩;(try dsimp only);replace hk:k<=l.length:=hk;replace hI:nI (mV wn wz wp) l [] false=nI (mV wn wz wp) (l.drop k) o bef:=hI;replace hna:E5 (mV wn wz wp) bef (l.drop k)=true:=hna;replace ho:o.length<=k:=ho;replace h3:o.length<=oc:=h3;replace h4:oc*20<=oN:=h4;refine A6 ?_;refine Cd ?_ ?_<;>intro hb1
 ·have hlt:k<l.length:=(by have:=of_decide_eq_true hb1;omega);obtain⟨x,hx⟩:∃x,l[k]? =some x:=⟨l[k],List.getElem?_eq_getElem hlt⟩;obtain⟨hs1,hs2⟩:=hrg x (List.mem_of_getElem? hx);refine eF 0 rfl (uD.ne (by decide) (by omega)) (fun hbs=>?_);obtain⟨gl,hgl⟩:=Option.isSome_iff_exists.1 hbs;replace hgl:lb=some gl:=hgl;subst hgl;refine A6 ?_;refine ai 0 ((k)*21) qac ZY rfl rfl rfl rfl rfl (by omega) (by omega) (uD.ne (by decide) (by omega)) (by show 0+Int.toNat _*21=_;omega) ?_;refine aI (v:=SgV x) 0 ((k)*21) _ rfl rfl rfl rfl ZY (uD.sub hx 0 21 (by decide)) rfl (by decide) rfl ?_;refine Al 21 qjt (fun g3=>?_);refine Ss 3 ?_;refine A6 ?_;refine(Aq (x.2+1)) (by exact(congrArg some (wi (by omega) (by omega) rfl))) ?_;refine(Iz ((x.2+1).toNat) qly ti4) ?_;refine aI (v:= .bool ((mV wn wz wp) x.2)) 1 ((x.2+1).toNat) _ rfl rfl rfl rfl ti4 (qfN hs1 hs2) rfl (by decide) rfl ?_;refine A9 ?_;refine Rs 43 ?_ ?_<;>intro hb2
  ·have hw:(mV wn wz wp) x.2=true:=hb2;have hbf:bef=false:=by have e:=(qcH hx hna).1;rw[hw] at e;simpa using e
   refine A5 ?_;refine Cd ?_ ?_<;>intro hb3
   ·exact absurd hb3 (by rw[hbf];decide)
   ·refine A6 ?_;refine Cd ?_ ?_<;>intro hb4
    ·refine A3 ?_;refine xZ 3 0 ?_;refine(Bl 20 [(0,_)]) (kT) (fun g4=>?_);refine(Qa (s:=20) (len:=o.length) (n2:=1) 2 4 (fun r=>[_,_,⟨some r.g,61,ah bG o++bG (x.1),r.n,true⟩,_,_]) FH Lh) (bu.length o) h3 h4 (bu.one (x.1)) (fun r=>?_);refine pq ?_;refine Ar (((k+1:Nat):Int)) ?_;refine A3 ?_;exact Nl ⟨⟨k+1,true,o++[x.1],some r.g,r.n,r.cap⟩,hlt,by rw[hI];exact qiJ hx hw hbf,by have e:=(qcH hx hna).2;rw[hw] at e;exact e,by rw[List.length_append];exact Nat.succ_le_succ ho,by rw[List.length_append];exact r.h,r.hn⟩ (hμ:=(by show l.length-(k+1)<l.length-k;omega)) (ht:=⟨rfl,rfl,(aG rfl (by rw[List.length_append];rfl)),(aG rfl (congrArg Value.bool hw)),rfl,rfl,rfl,trivial⟩) (hL:=(ak [some 0,some 1,some 2] ⟨pR,pR,⟨_,rfl,aK (by rw[dK])⟩,trivial⟩ rfl rfl))
    ·exact absurd hb4 (by rw[hw];decide)
  ·have hw:(mV wn wz wp) x.2=false:=hb2;refine lw ?_;refine Cd ?_ ?_<;>intro hb3
   ·exact absurd hb3 (by rw[hw];decide)
   ·refine kN ?_;refine Ar (((k+1:Nat):Int)) ?_;refine A3 ?_;exact Nl ⟨⟨k+1,false,o,ob,oN,oc⟩,hlt,by rw[hI];exact qkA hx hw,by have e:=(qcH hx hna).2;rw[hw] at e;exact e,Nat.le_succ_of_le ho,h3,h4⟩ (hμ:=(by show l.length-(k+1)<l.length-k;omega)) (ht:=⟨rfl,rfl,rfl,(aG rfl (congrArg Value.bool hw)),rfl,rfl,rfl,trivial⟩) (hL:=eH.auto)
 ·have hge:k=l.length:=(by have:=of_decide_eq_false hb1;omega);subst hge;have hl:r=o:=hr.trans (hI.trans qiK);refine D6 ?_;refine bF rfl (aj rfl) (aj rfl) (fun w hL=>⟨⟨ob,oN,oc,by rw[hl];exact h3⟩,?_,hL.picks [some 2] ⟨⟨_,rfl,aK (by rw[show ah bG r=_ from congrArg _ hl])⟩,trivial⟩ rfl rfl⟩);show Ending.returned (.tuple #[az ob 0 _ oc,_])=Ending.returned (.tuple #[az ob 0 r.length oc,_]);rw[hl]
end Go.Proofs.YtaffcpfhedadhaaGreatDoor
namespace Go.Via
open Go
section
variable{sm:Rl->Rl->Option Rat}{bd:Rat}{P:List (Iv×Qd)}{k:Nat}{x:Iv×Qd}{m:List Iv}
def qfO(hx:P[k]? =some x)(h:KI sm bd (P.drop k)=some m):∃v m',rU sm (mV false false true) (o9 x.2 ⟨bd*bd,0,0⟩) x.1=some v∧KI sm bd (P.drop (k+1))=some m'∧m=v++m':=by
 rw[xe hx,KI] at h;rcases hv:rU sm (mV false false true) (o9 x.2 ⟨bd*bd,0,0⟩) x.1 with _|v
 ·rw[hv] at h;cases h
 ·rw[hv] at h;rcases hm:KI sm bd (P.drop (k+1)) with _|m'
  ·simp only[Option.bind_some] at h;rw[hm] at h;cases h
  ·simp only[Option.bind_some] at h;rw[hm] at h;injection h with e;exact⟨v,m',rfl,rfl,e.symm⟩
theorem qiL(h:KI sm bd (P.drop P.length)=some m):m=[]:=by
 rw[List.drop_length,KI] at h;injection h with e;exact e.symm
end
end Go.Via
namespace Go.Proofs.YtaffcpfhedadhaaGreatDoor
open Go Go.RowKit Go.Via
def Au{S:Rl->Prop}{ρ:Rl->Int}(T:fZ S ρ)(sm:Rl->Rl->Option Rat)(a:List PU)(ab:Option Nat)(aN ac:Nat)(hac:a.length<=ac)(han:a.length<=400)(b:List PU)(bb:Option Nat)(bN bc:Nat)(hbc:b.length<=bc)(hbn:b.length<=400)(hsa:Fb a)(hsb:Fb b)(bd:Rat)(hbd:bV bd<=20000)(ex:List Iv)(h:KI sm bd (ay a b)=some ex)(hW:∀x∈ay a b,∀v,rU sm (mV false false true) (o9 x.2 ⟨bd*bd,0,0⟩) x.1=some v->bW Tryz.prog 76 [] [qH (o9 x.2 ⟨bd*bd,0,0⟩),kG x.1,.bool false,.bool false,.bool true] (SR v.length) (fun z=> .tuple #[z.v,.int .i64 0]) (fun z=>[⟨z.b,61,ah bG v,z.n,true⟩])∧v.length<=10)(hwS:jO S ex)(hwo:FU ρ ex)(hwz:∀x∈ex,jB x<=50000)(hwl:ex.length<=1000:=by omega):bW Tryz.prog 31 [⟨ab,100,ah aJ a,aN,false⟩,⟨bb,100,ah aJ b,bN,false⟩] [az ab 0 a.length ac,az bb 0 b.length bc,Q bd] (SR (jE ex).length) SR.v (fun z=>[⟨z.b,61,ah bG (jE ex),z.n,true⟩]):=by
 refine⟨by kernel_rfl,fun w hL0=>?_⟩;have hpl:=tK a b;have hps:=xR hsa hsb;have hb2:=sO hbd hbd;have hq0:=vX
 have hb3:tJ ⟨bd*bd,0,0⟩<=1000000:=(by show max (bV (bd*bd)) (max (bV 0) (bV 0))<=1000000;omega);refine ZM 41 Tryz.func31 hL0 ?_;refine A2 ?_;refine Bp 4 (fun g0=>?_);refine A5 ?_;refine L4 2 0 ?_;refine L4 2 0 ?_;refine Pc (aX bd bd) ?_;refine Pc (rE (bd*bd)) ?_;refine Al 12 Gv (fun g1=>?_);refine Ss 3 ?_;refine lw ?_;refine(Sc [0,1]) (ou a ab aN ac hac (by omega) b bb bN bc hbc (by omega) hsa hsb) (fun z=>?_);obtain⟨pb,pN,pc,hpc⟩:=z;refine A5 ?_;refine El (ι:={z:Nat×List Iv×Option Nat×Nat×Nat // z.1<=(ay a b).length∧(∃m,KI sm bd ((ay a b).drop z.1)=some m∧ex=z.2.1++m)∧z.2.1.length<=z.2.2.2.2∧z.2.2.2.2*20<=z.2.2.2.1}) (fun⟨⟨k,o,ob,oN,oc⟩,hk,hI,h3,h4⟩=>([(7,dD g1),(8,az ob 0 o.length oc),(19,az pb 0 (ay a b).length pc),(20,aZ ((ay a b).length)),(21,aZ k)],[⟨some g1,91,qeE ⟨bd*bd,0,0⟩,12,true⟩,⟨pb,93,ah Df (ay a b),pN,true⟩,⟨ob,61,ah bG o,oN,true⟩],(ay a b).length-k)) ⟨⟨0,[],none,0,0⟩,Nat.zero_le _,⟨ex,h,rfl⟩,Nat.le_refl _,by simp⟩ ?_ (hL:=(ak [some 3,some 4,none] ⟨pR,pR,⟨rfl,rfl,rfl⟩,trivial⟩ rfl rfl));rintro⟨⟨k,o,ob,oN,oc⟩,hk,hI,h3,h4⟩;(try dsimp only);replace hk:k<=(ay a b).length:=hk;obtain⟨m,hm,hwm⟩:=hI;replace hm:KI sm bd ((ay a b).drop k)=some m:=hm;replace hwm:ex=o++m:=hwm;replace h3:o.length<=oc:=h3;replace h4:oc*20<=oN:=h4;have hol:o.length<=1000:=Nat.le_trans (by rw[hwm,List.length_append];exact Nat.le_add_right _ _) hwl;refine A6 ?_;refine Cd ?_ ?_<;>intro hb1
 ·have hlt:k<(ay a b).length:=(by have:=of_decide_eq_true hb1;omega);obtain⟨x,hx⟩:∃x,(ay a b)[k]? =some x:=⟨(ay a b)[k],List.getElem?_eq_getElem hlt⟩;have hxm:=List.mem_of_getElem? hx;have hxz:=hps x hxm;obtain⟨v,m2,hv,hm2,hm3⟩:=qfO hx hm;obtain⟨hsc,hvl⟩:=hW x hxm v hv;refine eF 1 rfl (nH.ne (by decide) (by omega)) (fun hbs=>?_);obtain⟨gp,hgp⟩:=Option.isSome_iff_exists.1 hbs;replace hgp:pb=some gp:=hgp;subst hgp;refine A6 ?_;refine ai 1 ((k)*32) u88 Lc rfl rfl rfl rfl rfl (by omega) (by omega) (nH.ne (by decide) (by omega)) (by show 0+Int.toNat _*32=_;omega) ?_;refine aI (v:=PtV x) 1 ((k)*32) _ rfl rfl rfl rfl Lc (nH.sub hx 0 32 (by decide)) rfl (by decide) rfl ?_;refine Al 32 z93 (fun g2=>?_);refine Ss 3 ?_;refine A3 ?_;refine Dp [2000000] [0,1,2,4,5,3,6,7,8,9,10,11] ?_;refine A1 ?_;refine uV 3 20 ?_;refine uV 0 0 ?_;refine A1 ?_;refine xZ 3 0 ?_;refine Pc (yO x.2 ⟨bd*bd,0,0⟩) ?_;refine(Sc []) hsc (fun z=>?_);obtain⟨vb,vN,vc,hvc⟩:=z;refine A7 ?_;refine qF 4 rfl (fun hba=>?_);have hvb:=rF bu (by decide) hba;refine A3 ?_;refine(Qo (s:=20) (len:=o.length) 2 4 (ah bG v) (fun r2=>[_,_,⟨r2.b,61,ah bG o++ah bG v,r2.n,true⟩,_,_]) FH Lh) (bu.length o) h3 h4 hvb (by exact(by rw[List.drop_zero,<-bu.length v,List.take_length])) (bu.length v) (bu.ones _) (fun r2=>?_);refine A5 ?_;refine Ar (((k+1:Nat):Int)) ?_;refine A3 ?_;exact Nl ⟨⟨k+1,o++v,r2.b,r2.n,r2.cap⟩,hlt,⟨m2,hm2,by rw[hwm,hm3,List.append_assoc]⟩,by rw[List.length_append];exact r2.h,r2.hn⟩ (hμ:=(by show(ay a b).length-(k+1)<(ay a b).length-k;omega)) (ht:=⟨rfl,(aG rfl (congrArg (fun z=>az r2.b 0 z r2.cap) List.length_append.symm)),rfl,rfl,rfl,trivial⟩) (hL:=(ak [some 0,some 1,some 2] ⟨pR,pR,⟨_,rfl,aK (by rw[kM])⟩,trivial⟩ rfl rfl))
 ·have hge:k=(ay a b).length:=(by have:=of_decide_eq_false hb1;omega);subst hge;have hwo2:ex=o:=by rw[hwm,qiL hm,List.append_nil]
  subst hwo2;refine A8 ?_;refine(Sc [2]) (rQ T ex ob oN oc h3 hwl hwS hwo hwz) (fun z=>?_);obtain⟨nb,nN,nc,hnc⟩:=z;refine A4 ?_;refine aF rfl (aj rfl) (fun w hL=>⟨⟨nb,nN,nc,hnc⟩,?_,hL.pk [some 3]⟩);exact rfl
end Go.Proofs.YtaffcpfhedadhaaGreatDoor
namespace Go.Via
open Go
set_option maxRecDepth 100000
def kA:List PU:=[eA1]
def kB:List PU:=[eB1,eB2]
def kP:List oL:=(ay kA kB).map bg
def eP1:oL:=⟨⟨rl 0,rz 2,false,false⟩,rz 9,rz 13⟩
def eIv:Iv:=⟨rl 0,rz 4,true,true⟩
def q3:Rat:=((3:Int):Rat)
def kW:List Iv:=[⟨rl 0,rz 2,true,false⟩,⟨rz 2,rz 4,true,true⟩]
def p1:Iv×Qd:=(⟨rl 0,rz 2,false,false⟩,⟨9,0,1⟩)
def p2:Iv×Qd:=(⟨rz 2,rz 4,true,false⟩,⟨25,-8,1⟩)
theorem Xm:ay kA kB=[p1,p2]:=by decide+kernel
def qkB:KI su q3 (ay kA kB)=some kW:=by decide+kernel
theorem qcI:jE kW=[eIv]:=by decide+kernel
def qgH:kP.length=2:=by decide+kernel
def k_0:kP[0]? =some eP1:=by decide+kernel
theorem Xn:fD kP=rz 13:=by decide+kernel
def qkC:uZ kA kB kP (fD kP)=0:=by decide+kernel
def qmo:decide (bK (fD kP) (rl (((4:Int):Rat)*((4:Int):Rat)))<=0)=true:=by decide+kernel
def qmp:decide (bK (fD kP) (rl (((3:Int):Rat)*((3:Int):Rat)))<=0)=false:=by decide+kernel
def qiM:Fb kA:=by unfold Fb;decide+kernel
def qiN:Fb kB:=by unfold Fb;decide+kernel
def qmq:∀p∈kP,jB p.i<=5000∧gz p.a<=5000∧gz p.b<=5000:=by decide+kernel
def xg(n:Int):iF (rz n):=⟨n,rfl⟩
def Ir:iF (rl 0):=⟨0,by rfl⟩
def qkD:SI kA:=fun u hu=>by
 rw[kA,List.mem_singleton] at hu;subst hu;exact⟨Ir,xg 4⟩
def qkE:SI kB:=fun u hu=>by
 rw[kB,List.mem_cons,List.mem_singleton] at hu;rcases hu with h|h<;>subst h
 ·exact⟨Ir,xg 2⟩
 ·exact⟨xg 2,xg 4⟩
def qkF:EW kA kB:=by
 refine⟨?_,?_,qkD,qkE⟩
 ·unfold pJ;decide+kernel
 ·unfold pJ;decide+kernel
def qkG:∀x∈ay kA kB,(iF x.1.f∧iF x.1.t)∧aT jk x.1.b<aT jk x.1.e:=fun x hx=>by
 rw[Xm,List.mem_cons,List.mem_singleton] at hx;rcases hx with h|h<;>subst h
 ·exact⟨⟨Ir,xg 2⟩,by decide+kernel⟩
 ·exact⟨⟨xg 2,xg 4⟩,by decide+kernel⟩
def qmr:∀p∈kP,iF p.i.f∧iF p.i.t:=fun p hp=>by
 obtain⟨x,hx,rfl⟩:=List.mem_map.1 hp;exact(qkG x hx).1
def qms:jO iF kW:=fun i hi=>by
 rw[kW,List.mem_cons,List.mem_singleton] at hi;rcases hi with h|h<;>subst h
 ·exact⟨Ir,xg 2⟩
 ·exact⟨xg 2,xg 4⟩
def qmt:FU jk kW:=by unfold FU;decide+kernel
def qmu:∀x∈kW,jB x<=50000:=by decide+kernel
def qgI:∀l,gV su (o9 p1.2 ⟨q3*q3,0,0⟩) p1.1 (dI (o9 p1.2 ⟨q3*q3,0,0⟩)) p1.1 []=some l->E5 (mV false false true) false l=true∧l.length<=100:=fun l h=>by
 have e:gV su (o9 p1.2 ⟨q3*q3,0,0⟩) p1.1 (dI (o9 p1.2 ⟨q3*q3,0,0⟩)) p1.1 []=some [(⟨rl 0,rl 0,false,false⟩,0),(⟨rl 0,rz 2,true,false⟩,1)]:=(by decide+kernel);rw[e] at h;injection h with h;subst h;decide
def qgJ:∀l,gV su (o9 p2.2 ⟨q3*q3,0,0⟩) p2.1 (dI (o9 p2.2 ⟨q3*q3,0,0⟩)) p2.1 []=some l->E5 (mV false false true) false l=true∧l.length<=100:=fun l h=>by
 have e:gV su (o9 p2.2 ⟨q3*q3,0,0⟩) p2.1 (dI (o9 p2.2 ⟨q3*q3,0,0⟩)) p2.1 []=some [(⟨rz 2,rz 4,true,true⟩,1),(⟨rz 4,rz 4,false,false⟩,0)]:=(by decide+kernel);rw[e] at h;injection h with h;subst h;decide
def Q1:Qd:=o9 p1.2 ⟨q3*q3,0,0⟩
def Q2:Qd:=o9 p2.2 ⟨q3*q3,0,0⟩
def qkH:Q1.c2≠0∧Q1.c1/(-2*Q1.c2)*(Q1.c1/(-2*Q1.c2))-Q1.c0/Q1.c2=0:=by decide+kernel
def qkI:Q2.c2≠0∧Q2.c1/(-2*Q2.c2)*(Q2.c1/(-2*Q2.c2))-Q2.c0/Q2.c2=0:=by decide+kernel
def qmv:tJ Q1<=1000∧jB p1.1<=1000∧dN p1.1.f=true∧dN p1.1.t=true∧jP p1.1=true∧(dI Q1).length<=2∧(∀r∈dI Q1,gz r<=1000∧dN r=true):=by decide+kernel
def qmw:tJ Q2<=1000∧jB p2.1<=1000∧dN p2.1.f=true∧dN p2.1.t=true∧jP p2.1=true∧(dI Q2).length<=2∧(∀r∈dI Q2,gz r<=1000∧dN r=true):=by decide+kernel
def qmx:(rU su (mV false false true) Q1 p1.1).map (·.length)=some 1:=by decide+kernel
def qmy:(rU su (mV false false true) Q2 p2.1).map (·.length)=some 1:=by decide+kernel
end Go.Via
namespace Go.Proofs.YtaffcpfhedadhaaGreatDoor
open Go Go.RowKit Go.Via
def Tq:∀x y r,su x y=some r->aH Tryz.prog 235 #[RV x,RV y] (Q r):=fun x y r h=>by
 obtain⟨⟨h1,h2,h3,h4,h5,h6,h7,h8,h9⟩,rfl⟩:=U3 h;exact Gp x y h3 h4 (((Bz x).1 h1).elim (fun e=>e.1▸Rat.le_refl) (fun e=>Rat.le_of_lt e.1)) h8 h5 h6 h7 h9
def k_W:∀x∈ay kA kB,∀v,rU su (mV false false true) (o9 x.2 ⟨q3*q3,0,0⟩) x.1=some v->bW Tryz.prog 76 [] [qH (o9 x.2 ⟨q3*q3,0,0⟩),kG x.1,.bool false,.bool false,.bool true] (SR v.length) (fun z=> .tuple #[z.v,.int .i64 0]) (fun z=>[⟨z.b,61,ah bG v,z.n,true⟩])∧v.length<=10:=fun x hx v hv=>by
 rw[Xm,List.mem_cons,List.mem_singleton] at hx;rcases hx with h|h<;>subst h
 ·obtain⟨z1,z2,z3,z4,z5,z6,z7⟩:=qmv;refine⟨wB su Tq Q1 p1.1 false false true v hv (fun l hl=>(qgI l hl).1) z3 z4 z5 (ww Q1 (Cf Q1 z1 qkH.1 qkH.2)) z7 z6 (fun l hl=>(qgI l hl).2) (Nat.le_trans z1 (by decide)) z2,?_⟩;have e:=qmx;rw[show rU su (mV false false true) Q1 p1.1=some v from hv] at e;simp at e;omega
 ·obtain⟨z1,z2,z3,z4,z5,z6,z7⟩:=qmw;refine⟨wB su Tq Q2 p2.1 false false true v hv (fun l hl=>(qgJ l hl).1) z3 z4 z5 (ww Q2 (Cf Q2 z1 qkI.1 qkI.2)) z7 z6 (fun l hl=>(qgJ l hl).2) (Nat.le_trans z1 (by decide)) z2,?_⟩;have e:=qmy;rw[show rU su (mV false false true) Q2 p2.1=some v from hv] at e;simp at e;omega
def Ci:aH Tryz.prog 11 #[] (.bool true):=by
 have hkl:=qgH;have hkl2:((ay kA kB).map bg).length=2:=qgH;have hke:(if((ay kA kB).map bg).length=0 then(36:Int) else 0)=0:=if_neg (by rw[hkl2];decide)
 have hkx:(jE kW).length=1:=(by rw[qcI];rfl);have hk0:=k_0;have hkn:(jE kW)[0]? =some eIv:=(by rw[qcI];rfl);have kgz0:gz (fD kP)<=2:=by rw[Xn];exact qkz (by omega) (by omega)
 have kgz:gz (fD kP)<=50000:=Nat.le_trans kgz0 (by omega);refine pB0 77 Tryz.func11 fun w=>?_;refine A7 ?_;refine(Sc []) Hz (fun z=>?_);obtain⟨⟨ab,aN,ac,hac⟩,⟨bb,bN,bc,hbc⟩⟩:=z;refine pq ?_;refine(Sc [0,1]) (uM kA ab aN ac hac (by decide) kB bb bN bc hbc (by decide) qiM qiN qkD qkE) (fun z=>?_);obtain⟨cb,cN,cc,hcc⟩:=z;refine A3 ?_;refine aQ 15 (.int .i64 0) rfl (congrArg (Value.int .i64) hke) ?_;refine Al 10 z40 (fun g0=>?_);refine Ss 3 ?_;refine A7 ?_;refine Pc (iP 3 1) ?_;refine aQ 18 (Q ((3:Int):Rat)) rfl (congrArg Q (qP 3)) ?_;refine(Sc [0,1]) (Au o5 su kA ab aN ac hac (by decide) kB bb bN bc hbc (by decide) qiM qiN q3 (Nat.le_trans (mY (by omega) (by omega)) (by omega)) kW qkB k_W qms qmt qmu (by decide)) (fun z=>?_);obtain⟨xb,xN,xc,hxc⟩:=z;refine A4 ?_;refine Di [] ?_ (hc:=(nV (0::1::3::7::15::31::63::127::255::511::1023::511::4095::8191::16383::32767::65535::131071::262143::32767::557055::557055::2654207::7897087::16777215::33554431::67108863::134217727::134217727::134217727::1073741823::2147483647::4294967295::8589934591::17179869183::17179869183::68719476735::137438953471::274877906943::549755813887::549755813887::2199023255551::4398046511103::8796093022207::17592186044415::35184372088831::70368744177663::140737488355327::281474976710655::562949953421311::1125899906842623::2251799813685247::4503599627370495::1125899906842623::10133099161583615::36028797018963967::72057594037927935::144115188075855871::[]) (by kernel_rfl)));refine A2 ?_;refine aQ 21 (.bool true) rfl (congrArg Value.bool (by decide)) ?_;refine A5 ?_;refine aQ 26 (.bool true) rfl (congrArg Value.bool (decide_eq_true (by omega))) ?_;refine A3 ?_;refine L9 3 1 ?_;refine Kr 30 (RV (fD kP)) ?_;refine Pc (iC 13) ?_;refine fH rfl rfl rfl rfl OL (Pe _ _) ?_;refine aQ 32 (.bool true) rfl (congrArg Value.bool (decide_eq_true Xn)) ?_;refine A4 ?_;refine ai 2 ((0)*38) u32 pz rfl rfl rfl rfl rfl (by omega) (by omega) (dA.ne (by decide) (by omega)) (by show 0+Int.toNat _*38=_;omega) ?_;refine aI (v:=JP eP1) 2 ((0)*38) _ rfl rfl rfl rfl pz (dA.sub hk0 0 38 (by decide)) rfl (by decide) rfl ?_;refine Pc (iC 2) ?_;refine(Bu [(1,_)]) (OG) ?_;refine aQ 40 (kG ⟨rl 0,rz 2,false,false⟩) rfl (Xh _ _ _).symm ?_;refine Pc (iC 9) ?_;refine Pc (iC 13) ?_;refine(Bu [(0,_),(1,_),(2,_)]) (TZ) ?_;refine Kr 43 (JP eP1) ?_;refine fH rfl rfl rfl rfl qhm (qhN _ _) ?_;refine aQ 44 (.bool true) rfl (congrArg Value.bool (decide_eq_true rfl)) ?_;refine A4 ?_;refine QH 3 0 ?_;refine(Sd [0,1,2]) (uP o5 kA ab aN ac hac (by decide) kB bb bN bc hbc (by decide) qiM qiN qkF kP cb cN cc hcc (by omega) (fD kP) qmq (by omega) qkG qmr) ?_;refine aQ 50 (.int .i64 0) rfl (congrArg (Value.int .i64) qkC) ?_;refine A1 ?_;refine aQ 51 (.bool true) rfl (congrArg Value.bool (by decide)) ?_;refine A2 ?_;refine QH 3 0 ?_;refine Pc (iP 4 1) ?_;refine aQ 55 (Q ((4:Int):Rat)) rfl (congrArg Q (qP 4)) ?_;refine Pc (oC cb kP.length cc (fD kP) ((4:Int):Rat) kgz (Nat.le_trans (mY (by omega) (by omega)) (by omega))) ?_;refine aQ 56 (.bool true) rfl (congrArg Value.bool (qmo)) ?_;refine A2 ?_;refine QH 3 0 ?_;refine Pc (iP 3 1) ?_;refine aQ 60 (Q ((3:Int):Rat)) rfl (congrArg Q (qP 3)) ?_;refine Pc (oC cb kP.length cc (fD kP) ((3:Int):Rat) kgz (Nat.le_trans (mY (by omega) (by omega)) (by omega))) ?_;refine aQ 61 (.bool false) rfl (congrArg Value.bool qmp) ?_;refine A6 ?_;refine aQ 67 (.bool true) rfl (congrArg Value.bool (decide_eq_true (by omega))) ?_;refine A3 ?_;refine ai 4 ((0)*20) FH iR rfl rfl rfl rfl rfl (by omega) (by omega) (bu.ne (by decide) (by omega)) (by show 0+Int.toNat _*20=_;omega) ?_;refine aI (v:=kG eIv) 4 ((0)*20) _ rfl rfl rfl rfl iR (bu.sub hkn 0 20 (by decide)) rfl (by decide) rfl ?_;refine Pc (iC 4) ?_;refine(Bu [(1,_),(2,_),(3,_)]) (Qz) ?_;refine aQ 74 (kG eIv) rfl (Xh _ _ _).symm ?_;refine fH rfl rfl rfl rfl qjv (qjN _ _) ?_;refine aQ 75 (.bool true) rfl (congrArg Value.bool (decide_eq_true rfl)) ?_;refine A5 ?_;refine E0 ?_;exact rfl
def yX(ta xa ya tb xb yb ch:Nat)(hta:ta<256)(hxa:xa<256)(hya:ya<256)(htb:tb<256)(hxb:xb<256)(hyb:yb<256)(hch:ch<256)(a:List rJ)(ab:Option Nat)(pa:List Value)(aN ac:Nat)(hac:a.length<=ac)(has:∀s∈a,YW s)(b:List rJ)(bb:Option Nat)(pb:List Value)(bN bc:Nat)(hbc:b.length<=bc)(hbs:∀s∈b,YW s)(n e:Int)(up dn:Nat)(hn1: -9223372036854775808<=n:=by omega)(hn2:n<=9223372036854775807:=by omega)(he1: -9223372036854775808<=e:=by omega)(he2:e<=9223372036854775807:=by omega)(hup:up<256:=by omega)(hdn:dn<256:=by omega):bW Tryz.prog 7 [⟨ab,86,pa++ah jY a,aN,false⟩,⟨bb,86,pb++ah jY b,bN,false⟩] [.agg #[.int .u8 (ta:Nat),.int .u8 (xa:Nat),.int .u8 (ya:Nat),az ab pa.length a.length ac,.int .u8 (tb:Nat),.int .u8 (xb:Nat),.int .u8 (yb:Nat),az bb pb.length b.length bc,.int .u8 (ch:Nat)],.agg #[.int .i64 n,.int .i64 e,.int .u8 (up:Nat),.int .u8 (dn:Nat)]] Unit (fun _=> .bool true) (fun _=>[]):=by
 refine⟨by kernel_rfl,fun w hL0=>?_⟩;have hz40:=qfM (qiG (up:=up) (dn:=dn) hn1 hn2 he1 he2);have hrz:bV (yV (LD n e up dn))<=20000:=Nat.le_trans hz40 (by omega);have hmm:=sO hz40 hz40;refine XC 58 Tryz.func7 hL0 ?_;refine A2 ?_;refine Bp 9 (fun g0=>?_);refine Bp 4 (fun g1=>?_);refine A6 ?_;refine Pc (Ci) ?_;refine A1 ?_;refine Kr 11 (.bool false) ?_;refine A1 ?_;refine L9 2 0 ?_;refine Pc (LG ta xa ya tb xb yb ch a b ab bb pa pb ac bc) ?_;refine A4 ?_;refine Cd ?_ ?_<;>intro haQ
 ·refine A2 ?_;refine Pc (Ci) ?_;refine A5 ?_;refine aF rfl (aj rfl) (fun w hL=>⟨(),?_,hL.pk []⟩);exact rfl
 ·have hf6:=haQ;obtain⟨ha6,hb6⟩:a.length<=6∧b.length<=6:=by simpa using hf6
  obtain⟨A,hA⟩:∃A,jd ta xa ya a=A:=⟨_,rfl⟩;obtain⟨B,hB⟩:∃B,pM ta xa ya a tb xb yb b ch=B:=⟨_,rfl⟩;have F:Fl A B:=by rw[<-hA,<-hB];exact qiD ha6 hb6
  have hn42:((ay A B).map bg).length<=42:=F.n;refine A4 ?_;refine L9 2 0 ?_;refine(Sc [0,1]) (qcz hA hB hta hxa hya htb hxb hyb hch aN ac hac ha6 has bN bc hbc hb6 hbs) (fun z=>?_);obtain⟨⟨ub,uN,uc,huc⟩,⟨vb,vN,vc,hvc⟩⟩:=z;refine A8 ?_;refine Dq [3000000] [0,1,3,2,4,5,6,7,8] ?_;refine A2 ?_;refine L4 3 0 ?_;refine(Sc [4,5]) (Lt A ub uN uc huc (Nat.le_trans F.la (by omega)) B vb vN vc hvc (Nat.le_trans F.lb (by omega)) F.sa F.sb F.H) (fun z=>?_);obtain⟨wb,wN,wc,hwc⟩:=z;refine Pc (LH n e up dn hn1 hn2 he1 he2 hup hdn) ?_;refine Al 10 z40 (fun g2=>?_);refine Al 4 oM (fun g3=>?_);refine Ss 7 ?_;refine Ss 8 ?_;refine A4 ?_;refine QH 7 0 ?_;refine L4 8 0 ?_;refine Pc (oC wb ((ay A B).map bg).length wc (xI ((ay A B).map bg)) (yV (LD n e up dn)) (Nat.le_trans F.mostz (by omega)) hrz) ?_;refine A4 ?_;refine Di [] ?_ (hc:=(nV [0,0,2,0,0,24,56,126,254,511,1023,2047,4095,8191,16383,16383,16383,131071,262143,524287,524287,524287,4194303,8388607,16777215,33554431,67108863,134217727] (by kernel_rfl)));refine A2 ?_;refine L9 7 1 ?_;refine L4 8 0 ?_;refine L4 8 0 ?_;refine Pc (dF (yV (LD n e up dn)) (yV (LD n e up dn))) ?_;refine(Bu [(0,_)]) (FD) ?_;refine aQ 37 (RV (rl ((yV (LD n e up dn))*(yV (LD n e up dn))))) rfl (JV _).symm ?_;refine Pc (eX (xI ((ay A B).map bg)) (rl ((yV (LD n e up dn))*(yV (LD n e up dn)))) (Nat.le_trans F.mostz (by omega)) (wS (by omega) (by omega))) ?_;refine A1 ?_;refine AA rfl u4 rfl rfl rfl ?_;refine aQ 40 (.bool true) rfl (congrArg Value.bool (beq_self_eq_true _)) ?_;refine A4 ?_;refine Rs 44 ?_ ?_<;>intro hbQ
  ·refine KU ?_;refine aF rfl (aj rfl) (fun w hL=>⟨(),?_,hL.pk []⟩);exact rfl
  ·have hh:decide (bK (xI ((ay A B).map bg)) (rl ((yV (LD n e up dn))*(yV (LD n e up dn))))<=0)=true:=by simpa using hbQ
   refine A2 ?_;refine L4 8 0 ?_;refine(Sd [4,5]) (BK A ub uN uc huc (Nat.le_trans F.la (by omega)) B vb vN vc hvc (Nat.le_trans F.lb (by omega)) F.sa F.sb F.H.ea F.H.eb (yV (LD n e up dn)) hrz (Nat.le_trans F.greatz0 (by omega))) ?_;refine aQ 48 (.bool true) rfl (congrArg Value.bool (F.with hh)) ?_;refine A3 ?_;refine QH 7 0 ?_;refine(Sd [4,5,6]) (qmj F ub uN uc huc vb vN vc hvc ((ay A B).map bg) wb wN wc hwc hn42 (xI ((ay A B).map bg)) F.sz5 (Nat.le_trans F.mostz (by omega)) F.cS rfl) ?_;refine A1 ?_;refine aQ 54 (.bool true) rfl (congrArg Value.bool (F.notC)) ?_;refine A7 ?_;refine aF rfl (aj rfl) (fun w hL=>⟨(),?_,hL.pk []⟩);exact rfl
end Go.Proofs.YtaffcpfhedadhaaGreatDoor
