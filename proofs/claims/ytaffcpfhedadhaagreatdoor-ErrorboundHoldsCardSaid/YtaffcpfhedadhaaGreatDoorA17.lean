/-
  Part 17 (chapter 32): lemmas, walks. Each theorem states its own conditions.
-/
import Derived.Test.YtaffcpfhedadhaaGreatDoorA06
import Derived.Test.YtaffcpfhedadhaaGreatDoorA12
import Derived.Test.YtaffcpfhedadhaaGreatDoorA13
import Derived.Test.YtaffcpfhedadhaaGreatDoorA14
import Derived.Test.YtaffcpfhedadhaaGreatDoorA15
import Derived.Test.YtaffcpfhedadhaaGreatDoorA16
set_option linter.all false
set_option maxRecDepth 20000
set_option maxHeartbeats 20000000
namespace Go.Proofs.YtaffcpfhedadhaaGreatDoor
open Go Go.RowKit Go.Via
def vH(sm:Rl->Rl->Option Rat)(hsm:∀x y r,sm x y=some r->aH Tryz.prog 235 #[RV x,RV y] (Q r))(q:Qd)(i:Iv)(wn wz wp:Bool)(r:List Iv)(h:rO sm (mX wn wz wp) q i=some r)(hno:∀l,gy sm q i (dA q) i []=some l->E5 (mX wn wz wp) false l=true)(hf:dN i.f=true)(ht:dN i.t=true)(hoi:jr i=true)(hrt:bZ Tryz.prog 170 [] [qL q] (SR (dA q).length) (fun z=> .tuple #[z.v,.int .i64 0]) (fun z=>[⟨z.b,38,ak Fb (dA q),z.n,true⟩]))(hrz:∀r∈dA q,ik r<=1000∧dN r=true)(hrl:(dA q).length<=2)(hln:∀l,gy sm q i (dA q) i []=some l->l.length<=100)(hq:uk q<=10000:=by omega)(hi:kT i<=1000:=by omega):bZ Tryz.prog 76 [] [qL q,mG i,.bool wn,.bool wz,.bool wp] (SR r.length) (fun z=> .tuple #[z.v,.int .i64 0]) (fun z=>[⟨z.b,61,ak dQ r,z.n,true⟩]):=by
 refine⟨by kernel_rfl,fun w hL0=>?_⟩;obtain⟨l,hsg,hr⟩:=Tu h;have hll:=hln l hsg;have hrg:=yw (by simp) hsg;refine cB5 75 Tryz.func76 hL0 ?_;refine A2 ?_;refine Bp 12 (fun g0=>?_);refine Bp 20 (fun g1=>?_);refine A6 ?_;refine uD 0 0 ?_;refine xC 1 0 ?_;refine(Sc []) (EZ sm hsm q i l hsg hf ht hoi hrt hrz hrl hq hi) (fun z=>?_);obtain⟨lb,lN,lc,hlc⟩:=z;refine lK ?_;refine(Bu [(0,_),(1,_),(2,_)]) (qdh) ?_;refine Al 3 qkx (fun g2=>?_);refine Ss 3 ?_;refine A21 ?_;refine El (ι:={z:Nat×Bool×List Iv×Option Nat×Nat×Nat // z.1<=l.length∧nI (mX wn wz wp) l [] false=nI (mX wn wz wp) (l.drop z.1) z.2.2.1 z.2.1∧E5 (mX wn wz wp) z.2.1 (l.drop z.1)=true∧z.2.2.1.length<=z.1∧z.2.2.1.length<=z.2.2.2.2.2∧z.2.2.2.2.2*20<=z.2.2.2.2.1}) (fun⟨⟨k,bef,o,ob,oN,oc⟩,hk,hI,hna,ho,h3,h4⟩=>([(13,.int .i64 0),(14,gU g2),(15,aI ob 0 o.length oc),(16,.bool bef),(30,aI lb 0 l.length lc),(31,bV (l.length)),(32,bV k)],[⟨lb,181,ak EC l,lN,true⟩,⟨some g2,130,[.bool wn,.bool wz,.bool wp],3,true⟩,⟨ob,61,ak dQ o,oN,true⟩],l.length-k)) ⟨⟨0,false,[],none,0,0⟩,Nat.zero_le _,rfl,hno l hsg,Nat.le_refl _,Nat.le_refl _,by simp⟩ ?_ (hL:=(aj [some 2,some 3,none] ⟨pR,pR,⟨rfl,rfl,rfl⟩,trivial⟩ rfl rfl));rintro⟨⟨k,bef,o,ob,oN,oc⟩,hk,hI,hna,ho,h3,h4⟩;(try dsimp only);replace hk:k<=l.length:=hk;replace hI:nI (mX wn wz wp) l [] false=nI (mX wn wz wp) (l.drop k) o bef:=hI;replace hna:E5 (mX wn wz wp) bef (l.drop k)=true:=hna;replace ho:o.length<=k:=ho;replace h3:o.length<=oc:=h3;replace h4:oc*20<=oN:=h4;refine A6 ?_;refine Cd ?_ ?_<;>intro hb1
 ·have hlt:k<l.length:=(by have:=of_decide_eq_true hb1;omega);obtain⟨x,hx⟩:∃x,l[k]? =some x:=⟨l[k],List.getElem?_eq_getElem hlt⟩;obtain⟨hs1,hs2⟩:=hrg x (List.mem_of_getElem? hx);refine gm 0 rfl (uq.ne (by decide) (by omega)) (fun hbs=>?_);obtain⟨gl,hgl⟩:=Option.isSome_iff_exists.1 hbs;replace hgl:lb=some gl:=hgl;subst hgl;refine A6 ?_;refine au 0 ((k)*21) Z8 ZU rfl rfl rfl rfl rfl (by omega) (by omega) (uq.ne (by decide) (by omega)) (by show 0+Int.toNat _*21=_;omega) ?_;refine bn (v:=SgV x) 0 ((k)*21) _ rfl rfl rfl rfl ZU (uq.sub hx 0 21 (by decide)) rfl (by decide) rfl ?_;refine Al 21 qiO (fun g3=>?_);refine Ss 3 ?_;refine A6 ?_;refine(Aq (x.2+1)) (by exact(congrArg some (wi (by omega) (by omega) rfl))) ?_;refine(Iz ((x.2+1).toNat) qkH ti4) ?_;refine bn (v:= .bool ((mX wn wz wp) x.2)) 1 ((x.2+1).toNat) _ rfl rfl rfl rfl ti4 (qfi hs1 hs2) rfl (by decide) rfl ?_;refine A9 ?_;refine Rs 43 ?_ ?_<;>intro hb2
  ·have hw:(mX wn wz wp) x.2=true:=hb2;have hbf:bef=false:=by have e:=(qci hx hna).1;rw[hw] at e;simpa using e
   refine A5 ?_;refine Cd ?_ ?_<;>intro hb3
   ·exact absurd hb3 (by rw[hbf];decide)
   ·refine A6 ?_;refine Cd ?_ ?_<;>intro hb4
    ·refine A3 ?_;refine xC 3 0 ?_;refine(Bl 20 [(0,_)]) (xU) (fun g4=>?_);refine(Qa (s:=20) (len:=o.length) (n2:=1) 2 4 (fun r=>[_,_,⟨some r.g,61,ak dQ o++dQ (x.1),r.n,true⟩,_,_]) Z7 XX) (gW.length o) h3 h4 (gW.one (x.1)) (fun r=>?_);refine qf ?_;refine Ar (((k+1:Nat):Int)) ?_;refine A3 ?_;exact Nl ⟨⟨k+1,true,o++[x.1],some r.g,r.n,r.cap⟩,hlt,by rw[hI];exact qh2 hx hw hbf,by have e:=(qci hx hna).2;rw[hw] at e;exact e,by rw[List.length_append];exact Nat.succ_le_succ ho,by rw[List.length_append];exact r.h,r.hn⟩ (hμ:=(by show l.length-(k+1)<l.length-k;omega)) (ht:=⟨rfl,rfl,(aB rfl (by rw[List.length_append];rfl)),(aB rfl (congrArg Value.bool hw)),rfl,rfl,rfl,trivial⟩) (hL:=(aj [some 0,some 1,some 2] ⟨pR,pR,⟨_,rfl,aP (by rw[bD])⟩,trivial⟩ rfl rfl))
    ·exact absurd hb4 (by rw[hw];decide)
  ·have hw:(mX wn wz wp) x.2=false:=hb2;refine lK ?_;refine Cd ?_ ?_<;>intro hb3
   ·exact absurd hb3 (by rw[hw];decide)
   ·refine kL ?_;refine Ar (((k+1:Nat):Int)) ?_;refine A3 ?_;exact Nl ⟨⟨k+1,false,o,ob,oN,oc⟩,hlt,by rw[hI];exact qjJ hx hw,by have e:=(qci hx hna).2;rw[hw] at e;exact e,Nat.le_succ_of_le ho,h3,h4⟩ (hμ:=(by show l.length-(k+1)<l.length-k;omega)) (ht:=⟨rfl,rfl,rfl,(aB rfl (congrArg Value.bool hw)),rfl,rfl,rfl,trivial⟩) (hL:=eF.auto)
 ·have hge:k=l.length:=(by have:=of_decide_eq_false hb1;omega);subst hge;have hl:r=o:=hr.trans (hI.trans qh3);refine DV ?_;refine bg rfl (ai rfl) (ai rfl) (fun w hL=>⟨⟨ob,oN,oc,by rw[hl];exact h3⟩,?_,hL.picks [some 2] ⟨⟨_,rfl,aP (by rw[show ak dQ r=_ from congrArg _ hl])⟩,trivial⟩ rfl rfl⟩);show Ending.returned (.tuple #[aI ob 0 _ oc,_])=Ending.returned (.tuple #[aI ob 0 r.length oc,_]);rw[hl]
end Go.Proofs.YtaffcpfhedadhaaGreatDoor
namespace Go.Via
open Go
section
variable{sm:Rl->Rl->Option Rat}{bd:Rat}{P:List (Iv×Qd)}{k:Nat}{x:Iv×Qd}{m:List Iv}
def qfj(hx:P[k]? =some x)(h:KQ sm bd (P.drop k)=some m):∃v m',rO sm (mX false false true) (o8 x.2 ⟨bd*bd,0,0⟩) x.1=some v∧KQ sm bd (P.drop (k+1))=some m'∧m=v++m':=by
 rw[wF hx,KQ] at h;rcases hv:rO sm (mX false false true) (o8 x.2 ⟨bd*bd,0,0⟩) x.1 with _|v
 ·rw[hv] at h;cases h
 ·rw[hv] at h;rcases hm:KQ sm bd (P.drop (k+1)) with _|m'
  ·simp only[Option.bind_some] at h;rw[hm] at h;cases h
  ·simp only[Option.bind_some] at h;rw[hm] at h;injection h with e;exact⟨v,m',rfl,rfl,e.symm⟩
theorem qh4(h:KQ sm bd (P.drop P.length)=some m):m=[]:=by
 rw[List.drop_length,KQ] at h;injection h with e;exact e.symm
end
end Go.Via
namespace Go.Proofs.YtaffcpfhedadhaaGreatDoor
open Go Go.RowKit Go.Via
def Aj{S:Rl->Prop}{ρ:Rl->Int}(T:fD S ρ)(sm:Rl->Rl->Option Rat)(a:List PU)(ab:Option Nat)(aN ac:Nat)(hac:a.length<=ac)(han:a.length<=400)(b:List PU)(bb:Option Nat)(bN bc:Nat)(hbc:b.length<=bc)(hbn:b.length<=400)(hsa:He a)(hsb:He b)(bd:Rat)(hbd:bP bd<=20000)(ex:List Iv)(h:KQ sm bd (ay a b)=some ex)(hW:∀x∈ay a b,∀v,rO sm (mX false false true) (o8 x.2 ⟨bd*bd,0,0⟩) x.1=some v->bZ Tryz.prog 76 [] [qL (o8 x.2 ⟨bd*bd,0,0⟩),mG x.1,.bool false,.bool false,.bool true] (SR v.length) (fun z=> .tuple #[z.v,.int .i64 0]) (fun z=>[⟨z.b,61,ak dQ v,z.n,true⟩])∧v.length<=10)(hwS:kw S ex)(hwo:F7 ρ ex)(hwz:∀x∈ex,kT x<=50000)(hwl:ex.length<=1000:=by omega):bZ Tryz.prog 31 [⟨ab,100,ak aQ a,aN,false⟩,⟨bb,100,ak aQ b,bN,false⟩] [aI ab 0 a.length ac,aI bb 0 b.length bc,Q bd] (SR (jG ex).length) SR.v (fun z=>[⟨z.b,61,ak dQ (jG ex),z.n,true⟩]):=by
 refine⟨by kernel_rfl,fun w hL0=>?_⟩;have hpl:=Bz a b;have hps:=EW hsa hsb;have hb2:=uP hbd hbd;have hq0:=vk
 have hb3:uk ⟨bd*bd,0,0⟩<=1000000:=(by show max (bP (bd*bd)) (max (bP 0) (bP 0))<=1000000;omega);refine cB3 41 Tryz.func31 hL0 ?_;refine A2 ?_;refine Bp 4 (fun g0=>?_);refine A5 ?_;refine L4 2 0 ?_;refine L4 2 0 ?_;refine Pc (aG bd bd) ?_;refine Pc (rE (bd*bd)) ?_;refine Al 12 Hq (fun g1=>?_);refine Ss 3 ?_;refine lK ?_;refine(Sc [0,1]) (oh a ab aN ac hac (by omega) b bb bN bc hbc (by omega) hsa hsb) (fun z=>?_);obtain⟨pb,pN,pc,hpc⟩:=z;refine A5 ?_;refine El (ι:={z:Nat×List Iv×Option Nat×Nat×Nat // z.1<=(ay a b).length∧(∃m,KQ sm bd ((ay a b).drop z.1)=some m∧ex=z.2.1++m)∧z.2.1.length<=z.2.2.2.2∧z.2.2.2.2*20<=z.2.2.2.1}) (fun⟨⟨k,o,ob,oN,oc⟩,hk,hI,h3,h4⟩=>([(7,gU g1),(8,aI ob 0 o.length oc),(19,aI pb 0 (ay a b).length pc),(20,bV ((ay a b).length)),(21,bV k)],[⟨some g1,91,qef ⟨bd*bd,0,0⟩,12,true⟩,⟨pb,93,ak C9 (ay a b),pN,true⟩,⟨ob,61,ak dQ o,oN,true⟩],(ay a b).length-k)) ⟨⟨0,[],none,0,0⟩,Nat.zero_le _,⟨ex,h,rfl⟩,Nat.le_refl _,by simp⟩ ?_ (hL:=(aj [some 3,some 4,none] ⟨pR,pR,⟨rfl,rfl,rfl⟩,trivial⟩ rfl rfl));rintro⟨⟨k,o,ob,oN,oc⟩,hk,hI,h3,h4⟩;(try dsimp only);replace hk:k<=(ay a b).length:=hk;obtain⟨m,hm,hwm⟩:=hI;replace hm:KQ sm bd ((ay a b).drop k)=some m:=hm;replace hwm:ex=o++m:=hwm;replace h3:o.length<=oc:=h3;replace h4:oc*20<=oN:=h4;have hol:o.length<=1000:=Nat.le_trans (by rw[hwm,List.length_append];exact Nat.le_add_right _ _) hwl;refine A6 ?_;refine Cd ?_ ?_<;>intro hb1
 ·have hlt:k<(ay a b).length:=(by have:=of_decide_eq_true hb1;omega);obtain⟨x,hx⟩:∃x,(ay a b)[k]? =some x:=⟨(ay a b)[k],List.getElem?_eq_getElem hlt⟩;have hxm:=List.mem_of_getElem? hx;have hxz:=hps x hxm;obtain⟨v,m2,hv,hm2,hm3⟩:=qfj hx hm;obtain⟨hsc,hvl⟩:=hW x hxm v hv;refine gm 1 rfl (nH.ne (by decide) (by omega)) (fun hbs=>?_);obtain⟨gp,hgp⟩:=Option.isSome_iff_exists.1 hbs;replace hgp:pb=some gp:=hgp;subst hgp;refine A6 ?_;refine au 1 ((k)*32) u88 Ll rfl rfl rfl rfl rfl (by omega) (by omega) (nH.ne (by decide) (by omega)) (by show 0+Int.toNat _*32=_;omega) ?_;refine bn (v:=PtV x) 1 ((k)*32) _ rfl rfl rfl rfl Ll (nH.sub hx 0 32 (by decide)) rfl (by decide) rfl ?_;refine Al 32 z93 (fun g2=>?_);refine Ss 3 ?_;refine A3 ?_;refine Dp [2000000] [0,1,2,4,5,3,6,7,8,9,10,11] ?_;refine A1 ?_;refine uD 3 20 ?_;refine uD 0 0 ?_;refine A1 ?_;refine xC 3 0 ?_;refine Pc (yG x.2 ⟨bd*bd,0,0⟩) ?_;refine(Sc []) hsc (fun z=>?_);obtain⟨vb,vN,vc,hvc⟩:=z;refine A7 ?_;refine AV 4 rfl (fun hba=>?_);have hvb:=EN gW (by decide) hba;refine A3 ?_;refine(Qo (s:=20) (len:=o.length) 2 4 (ak dQ v) (fun r2=>[_,_,⟨r2.b,61,ak dQ o++ak dQ v,r2.n,true⟩,_,_]) Z7 XX) (gW.length o) h3 h4 hvb (by exact(by rw[List.drop_zero,<-gW.length v,List.take_length])) (gW.length v) (gW.ones _) (fun r2=>?_);refine A5 ?_;refine Ar (((k+1:Nat):Int)) ?_;refine A3 ?_;exact Nl ⟨⟨k+1,o++v,r2.b,r2.n,r2.cap⟩,hlt,⟨m2,hm2,by rw[hwm,hm3,List.append_assoc]⟩,by rw[List.length_append];exact r2.h,r2.hn⟩ (hμ:=(by show(ay a b).length-(k+1)<(ay a b).length-k;omega)) (ht:=⟨rfl,(aB rfl (congrArg (fun z=>aI r2.b 0 z r2.cap) List.length_append.symm)),rfl,rfl,rfl,trivial⟩) (hL:=(aj [some 0,some 1,some 2] ⟨pR,pR,⟨_,rfl,aP (by rw[vC])⟩,trivial⟩ rfl rfl))
 ·have hge:k=(ay a b).length:=(by have:=of_decide_eq_false hb1;omega);subst hge;have hwo2:ex=o:=by rw[hwm,qh4 hm,List.append_nil]
  subst hwo2;refine A8 ?_;refine(Sc [2]) (rM T ex ob oN oc h3 hwl hwS hwo hwz) (fun z=>?_);obtain⟨nb,nN,nc,hnc⟩:=z;refine A4 ?_;refine aO rfl (ai rfl) (fun w hL=>⟨⟨nb,nN,nc,hnc⟩,?_,hL.pk [some 3]⟩);exact rfl
end Go.Proofs.YtaffcpfhedadhaaGreatDoor
namespace Go.Via
open Go
set_option maxRecDepth 100000
def kA:List PU:=[eA1]
def kB:List PU:=[eB1,eB2]
def kP:List qA:=(ay kA kB).map dV
def eP1:qA:=⟨⟨rl 0,rz 2,false,false⟩,rz 9,rz 13⟩
def eIv:Iv:=⟨rl 0,rz 4,true,true⟩
def q3:Rat:=((3:Int):Rat)
def kW:List Iv:=[⟨rl 0,rz 2,true,false⟩,⟨rz 2,rz 4,true,true⟩]
def p1:Iv×Qd:=(⟨rl 0,rz 2,false,false⟩,⟨9,0,1⟩)
def p2:Iv×Qd:=(⟨rz 2,rz 4,true,false⟩,⟨25,-8,1⟩)
theorem Xo:ay kA kB=[p1,p2]:=by decide+kernel
def qjK:KQ rV q3 (ay kA kB)=some kW:=by decide+kernel
theorem qcj:jG kW=[eIv]:=by decide+kernel
def qfW:kP.length=2:=by decide+kernel
def k_0:kP[0]? =some eP1:=by decide+kernel
theorem Xp:fF kP=rz 13:=by decide+kernel
def qjL:wY kA kB kP (fF kP)=0:=by decide+kernel
def qlt:decide (bH (fF kP) (rl (((4:Int):Rat)*((4:Int):Rat)))<=0)=true:=by decide+kernel
def qlu:decide (bH (fF kP) (rl (((3:Int):Rat)*((3:Int):Rat)))<=0)=false:=by decide+kernel
def qh5:He kA:=by unfold He;decide+kernel
def qh6:He kB:=by unfold He;decide+kernel
def qlv:∀p∈kP,kT p.i<=5000∧ik p.a<=5000∧ik p.b<=5000:=by decide+kernel
def wG(n:Int):jl (rz n):=⟨n,rfl⟩
def IR:jl (rl 0):=⟨0,by rfl⟩
def qjM:YK kA:=fun u hu=>by
 rw[kA,List.mem_singleton] at hu;subst hu;exact⟨IR,wG 4⟩
def qjN:YK kB:=fun u hu=>by
 rw[kB,List.mem_cons,List.mem_singleton] at hu;rcases hu with h|h<;>subst h
 ·exact⟨IR,wG 2⟩
 ·exact⟨wG 2,wG 4⟩
def qjO:SS kA kB:=by
 refine⟨?_,?_,qjM,qjN⟩
 ·unfold nX;decide+kernel
 ·unfold nX;decide+kernel
def qjP:∀x∈ay kA kB,(jl x.1.f∧jl x.1.t)∧aY iM x.1.b<aY iM x.1.e:=fun x hx=>by
 rw[Xo,List.mem_cons,List.mem_singleton] at hx;rcases hx with h|h<;>subst h
 ·exact⟨⟨IR,wG 2⟩,by decide+kernel⟩
 ·exact⟨⟨wG 2,wG 4⟩,by decide+kernel⟩
def qlw:∀p∈kP,jl p.i.f∧jl p.i.t:=fun p hp=>by
 obtain⟨x,hx,rfl⟩:=List.mem_map.1 hp;exact(qjP x hx).1
def qlx:kw jl kW:=fun i hi=>by
 rw[kW,List.mem_cons,List.mem_singleton] at hi;rcases hi with h|h<;>subst h
 ·exact⟨IR,wG 2⟩
 ·exact⟨wG 2,wG 4⟩
def qly:F7 iM kW:=by unfold F7;decide+kernel
def qlz:∀x∈kW,kT x<=50000:=by decide+kernel
def qfX:∀l,gy rV (o8 p1.2 ⟨q3*q3,0,0⟩) p1.1 (dA (o8 p1.2 ⟨q3*q3,0,0⟩)) p1.1 []=some l->E5 (mX false false true) false l=true∧l.length<=100:=fun l h=>by
 have e:gy rV (o8 p1.2 ⟨q3*q3,0,0⟩) p1.1 (dA (o8 p1.2 ⟨q3*q3,0,0⟩)) p1.1 []=some [(⟨rl 0,rl 0,false,false⟩,0),(⟨rl 0,rz 2,true,false⟩,1)]:=(by decide+kernel);rw[e] at h;injection h with h;subst h;decide
def qfY:∀l,gy rV (o8 p2.2 ⟨q3*q3,0,0⟩) p2.1 (dA (o8 p2.2 ⟨q3*q3,0,0⟩)) p2.1 []=some l->E5 (mX false false true) false l=true∧l.length<=100:=fun l h=>by
 have e:gy rV (o8 p2.2 ⟨q3*q3,0,0⟩) p2.1 (dA (o8 p2.2 ⟨q3*q3,0,0⟩)) p2.1 []=some [(⟨rz 2,rz 4,true,true⟩,1),(⟨rz 4,rz 4,false,false⟩,0)]:=(by decide+kernel);rw[e] at h;injection h with h;subst h;decide
def Q1:Qd:=o8 p1.2 ⟨q3*q3,0,0⟩
def Q2:Qd:=o8 p2.2 ⟨q3*q3,0,0⟩
def qjQ:Q1.c2≠0∧Q1.c1/(-2*Q1.c2)*(Q1.c1/(-2*Q1.c2))-Q1.c0/Q1.c2=0:=by decide+kernel
def qjR:Q2.c2≠0∧Q2.c1/(-2*Q2.c2)*(Q2.c1/(-2*Q2.c2))-Q2.c0/Q2.c2=0:=by decide+kernel
def qlA:uk Q1<=1000∧kT p1.1<=1000∧dN p1.1.f=true∧dN p1.1.t=true∧jr p1.1=true∧(dA Q1).length<=2∧(∀r∈dA Q1,ik r<=1000∧dN r=true):=by decide+kernel
def qlB:uk Q2<=1000∧kT p2.1<=1000∧dN p2.1.f=true∧dN p2.1.t=true∧jr p2.1=true∧(dA Q2).length<=2∧(∀r∈dA Q2,ik r<=1000∧dN r=true):=by decide+kernel
def qlC:(rO rV (mX false false true) Q1 p1.1).map (·.length)=some 1:=by decide+kernel
def qlD:(rO rV (mX false false true) Q2 p2.1).map (·.length)=some 1:=by decide+kernel
end Go.Via
namespace Go.Proofs.YtaffcpfhedadhaaGreatDoor
open Go Go.RowKit Go.Via
def Tv:∀x y r,rV x y=some r->aH Tryz.prog 235 #[RV x,RV y] (Q r):=fun x y r h=>by
 obtain⟨⟨h1,h2,h3,h4,h5,h6,h7,h8,h9⟩,rfl⟩:=Vf h;exact Gy x y h3 h4 (((Bh x).1 h1).elim (fun e=>e.1▸Rat.le_refl) (fun e=>Rat.le_of_lt e.1)) h8 h5 h6 h7 h9
def k_W:∀x∈ay kA kB,∀v,rO rV (mX false false true) (o8 x.2 ⟨q3*q3,0,0⟩) x.1=some v->bZ Tryz.prog 76 [] [qL (o8 x.2 ⟨q3*q3,0,0⟩),mG x.1,.bool false,.bool false,.bool true] (SR v.length) (fun z=> .tuple #[z.v,.int .i64 0]) (fun z=>[⟨z.b,61,ak dQ v,z.n,true⟩])∧v.length<=10:=fun x hx v hv=>by
 rw[Xo,List.mem_cons,List.mem_singleton] at hx;rcases hx with h|h<;>subst h
 ·obtain⟨z1,z2,z3,z4,z5,z6,z7⟩:=qlA;refine⟨vH rV Tv Q1 p1.1 false false true v hv (fun l hl=>(qfX l hl).1) z3 z4 z5 (vG Q1 (BZ Q1 z1 qjQ.1 qjQ.2)) z7 z6 (fun l hl=>(qfX l hl).2) (Nat.le_trans z1 (by decide)) z2,?_⟩;have e:=qlC;rw[show rO rV (mX false false true) Q1 p1.1=some v from hv] at e;simp at e;omega
 ·obtain⟨z1,z2,z3,z4,z5,z6,z7⟩:=qlB;refine⟨vH rV Tv Q2 p2.1 false false true v hv (fun l hl=>(qfY l hl).1) z3 z4 z5 (vG Q2 (BZ Q2 z1 qjR.1 qjR.2)) z7 z6 (fun l hl=>(qfY l hl).2) (Nat.le_trans z1 (by decide)) z2,?_⟩;have e:=qlD;rw[show rO rV (mX false false true) Q2 p2.1=some v from hv] at e;simp at e;omega
def Cb:aH Tryz.prog 11 #[] (.bool true):=by
 have hkl:=qfW;have hkl2:((ay kA kB).map dV).length=2:=qfW;have hke:(if((ay kA kB).map dV).length=0 then(36:Int) else 0)=0:=if_neg (by rw[hkl2];decide)
 have hkx:(jG kW).length=1:=(by rw[qcj];rfl);have hk0:=k_0;have hkn:(jG kW)[0]? =some eIv:=(by rw[qcj];rfl);have kgz0:ik (fF kP)<=2:=by rw[Xp];exact qjI (by omega) (by omega)
 have kgz:ik (fF kP)<=50000:=Nat.le_trans kgz0 (by omega);refine pB0 77 Tryz.func11 fun w=>?_;refine A7 ?_;refine(Sc []) Ij (fun z=>?_);obtain⟨⟨ab,aN,ac,hac⟩,⟨bb,bN,bc,hbc⟩⟩:=z;refine qf ?_;refine(Sc [0,1]) (uw kA ab aN ac hac (by decide) kB bb bN bc hbc (by decide) qh5 qh6 qjM qjN) (fun z=>?_);obtain⟨cb,cN,cc,hcc⟩:=z;refine A3 ?_;refine aW 15 (.int .i64 0) rfl (congrArg (Value.int .i64) hke) ?_;refine Al 10 z40 (fun g0=>?_);refine Ss 3 ?_;refine A7 ?_;refine Pc (gu 3 1) ?_;refine aW 18 (Q ((3:Int):Rat)) rfl (congrArg Q (qV 3)) ?_;refine(Sc [0,1]) (Aj zO rV kA ab aN ac hac (by decide) kB bb bN bc hbc (by decide) qh5 qh6 q3 (Nat.le_trans (ny (by omega) (by omega)) (by omega)) kW qjK k_W qlx qly qlz (by decide)) (fun z=>?_);obtain⟨xb,xN,xc,hxc⟩:=z;refine A4 ?_;refine Di [] ?_ (hc:=(lW (0::1::3::7::15::31::63::127::255::511::1023::511::4095::8191::16383::32767::65535::131071::262143::32767::557055::557055::2654207::7897087::16777215::33554431::67108863::134217727::134217727::134217727::1073741823::2147483647::4294967295::8589934591::17179869183::17179869183::68719476735::137438953471::274877906943::549755813887::549755813887::2199023255551::4398046511103::8796093022207::17592186044415::35184372088831::70368744177663::140737488355327::281474976710655::562949953421311::1125899906842623::2251799813685247::4503599627370495::1125899906842623::10133099161583615::36028797018963967::72057594037927935::144115188075855871::[]) (by kernel_rfl)));refine A2 ?_;refine aW 21 (.bool true) rfl (congrArg Value.bool (by decide)) ?_;refine A5 ?_;refine aW 26 (.bool true) rfl (congrArg Value.bool (decide_eq_true (by omega))) ?_;refine A3 ?_;refine L9 3 1 ?_;refine Kr 30 (RV (fF kP)) ?_;refine Pc (gY 13) ?_;refine fG rfl rfl rfl rfl OA (O8 _ _) ?_;refine aW 32 (.bool true) rfl (congrArg Value.bool (decide_eq_true Xp)) ?_;refine A4 ?_;refine au 2 ((0)*38) u32 Qv rfl rfl rfl rfl rfl (by omega) (by omega) (iU.ne (by decide) (by omega)) (by show 0+Int.toNat _*38=_;omega) ?_;refine bn (v:=Yw eP1) 2 ((0)*38) _ rfl rfl rfl rfl Qv (iU.sub hk0 0 38 (by decide)) rfl (by decide) rfl ?_;refine Pc (gY 2) ?_;refine(Bu [(1,_)]) (Oz) ?_;refine aW 40 (mG ⟨rl 0,rz 2,false,false⟩) rfl (Xk _ _ _).symm ?_;refine Pc (gY 9) ?_;refine Pc (gY 13) ?_;refine(Bu [(0,_),(1,_),(2,_)]) (ZX) ?_;refine Kr 43 (Yw eP1) ?_;refine fG rfl rfl rfl rfl qgA (qg3 _ _) ?_;refine aW 44 (.bool true) rfl (congrArg Value.bool (decide_eq_true rfl)) ?_;refine A4 ?_;refine VT 3 0 ?_;refine(Sd [0,1,2]) (Dt zO kA ab aN ac hac (by decide) kB bb bN bc hbc (by decide) qh5 qh6 qjO kP cb cN cc hcc (by omega) (fF kP) qlv (by omega) qjP qlw) ?_;refine aW 50 (.int .i64 0) rfl (congrArg (Value.int .i64) qjL) ?_;refine A1 ?_;refine aW 51 (.bool true) rfl (congrArg Value.bool (by decide)) ?_;refine A2 ?_;refine VT 3 0 ?_;refine Pc (gu 4 1) ?_;refine aW 55 (Q ((4:Int):Rat)) rfl (congrArg Q (qV 4)) ?_;refine Pc (uB cb kP.length cc (fF kP) ((4:Int):Rat) kgz (Nat.le_trans (ny (by omega) (by omega)) (by omega))) ?_;refine aW 56 (.bool true) rfl (congrArg Value.bool (qlt)) ?_;refine A2 ?_;refine VT 3 0 ?_;refine Pc (gu 3 1) ?_;refine aW 60 (Q ((3:Int):Rat)) rfl (congrArg Q (qV 3)) ?_;refine Pc (uB cb kP.length cc (fF kP) ((3:Int):Rat) kgz (Nat.le_trans (ny (by omega) (by omega)) (by omega))) ?_;refine aW 61 (.bool false) rfl (congrArg Value.bool qlu) ?_;refine A6 ?_;refine aW 67 (.bool true) rfl (congrArg Value.bool (decide_eq_true (by omega))) ?_;refine A3 ?_;refine au 4 ((0)*20) Z7 lL rfl rfl rfl rfl rfl (by omega) (by omega) (gW.ne (by decide) (by omega)) (by show 0+Int.toNat _*20=_;omega) ?_;refine bn (v:=mG eIv) 4 ((0)*20) _ rfl rfl rfl rfl lL (gW.sub hkn 0 20 (by decide)) rfl (by decide) rfl ?_;refine Pc (gY 4) ?_;refine(Bu [(1,_),(2,_),(3,_)]) (Qw) ?_;refine aW 74 (mG eIv) rfl (Xk _ _ _).symm ?_;refine fG rfl rfl rfl rfl qiQ (qi9 _ _) ?_;refine aW 75 (.bool true) rfl (congrArg Value.bool (decide_eq_true rfl)) ?_;refine A5 ?_;refine E0 ?_;exact rfl
def E8(ta xa ya tb xb yb ch:Nat)(hta:ta<256)(hxa:xa<256)(hya:ya<256)(htb:tb<256)(hxb:xb<256)(hyb:yb<256)(hch:ch<256)(a:List rG)(ab:Option Nat)(pa:List Value)(aN ac:Nat)(hac:a.length<=ac)(has:∀s∈a,YT s)(b:List rG)(bb:Option Nat)(pb:List Value)(bN bc:Nat)(hbc:b.length<=bc)(hbs:∀s∈b,YT s)(ia ib ic id:Nat)(s:Bool)(hia:ia<256:=by omega)(hib:ib<256:=by omega)(hic:ic<256:=by omega)(hid:id<256:=by omega):bZ Tryz.prog 4 [⟨ab,86,pa++ak jT a,aN,false⟩,⟨bb,86,pb++ak jT b,bN,false⟩] [.agg #[.int .u8 (ta:Nat),.int .u8 (xa:Nat),.int .u8 (ya:Nat),aI ab pa.length a.length ac,.int .u8 (tb:Nat),.int .u8 (xb:Nat),.int .u8 (yb:Nat),aI bb pb.length b.length bc,.int .u8 (ch:Nat)],.agg #[.int .u8 (ia:Nat),.int .u8 (ib:Nat),.int .u8 (ic:Nat),.int .u8 (id:Nat),.bool s]] Unit (fun _=> .bool true) (fun _=>[]):=by
 refine VU 55 Tryz.func4 fun w hL0=>?_;refine A2 ?_;refine Bp 9 (fun g0=>?_);refine Bp 5 (fun g1=>?_);refine A6 ?_;refine Pc (Cb) ?_;refine A1 ?_;refine Kr 12 (.bool false) ?_;refine A1 ?_;refine L9 2 0 ?_;refine Pc (LG ta xa ya tb xb yb ch a b ab bb pa pb ac bc) ?_;refine A4 ?_;refine Cd ?_ ?_<;>intro hb0
 ·refine A2 ?_;refine Pc (Cb) ?_;refine A5 ?_;refine aO rfl (ai rfl) (fun w hL=>⟨(),?_,hL.pk []⟩);exact rfl
 ·have hf6:=hb0;obtain⟨ha6,hb6⟩:a.length<=6∧b.length<=6:=by simpa using hf6
  obtain⟨A,hA⟩:∃A,gJ ta xa ya a=A:=⟨_,rfl⟩;obtain⟨B,hB⟩:∃B,pK ta xa ya a tb xb yb b ch=B:=⟨_,rfl⟩;have F:Fl A B:=by rw[<-hA,<-hB];exact qhT ha6 hb6
  have hn42:((ay A B).map dV).length<=42:=F.n;refine A4 ?_;refine L9 2 0 ?_;refine(Sc [0,1]) (qcd hA hB hta hxa hya htb hxb hyb hch aN ac hac ha6 has bN bc hbc hb6 hbs) (fun z=>?_);obtain⟨⟨ub,uN,uc,huc⟩,⟨vb,vN,vc,hvc⟩⟩:=z;refine qf ?_;refine(Sc [4,5]) (uw A ub uN uc huc (Nat.le_trans F.la (by omega)) B vb vN vc hvc (Nat.le_trans F.lb (by omega)) F.sa F.sb F.H.ea F.H.eb) (fun z=>?_);obtain⟨cb,cN,cc,hcc⟩:=z;refine A3 ?_;refine Al 10 z40 (fun g2=>?_);refine Ss 7 ?_;refine A7 ?_;refine Ld 3 0 [_,_,_,_,_] qiK ?_;refine Pc (PM ia ib ic id s hia hib hic hid) ?_;refine(Sd [4,5]) (Vb A ub uN uc huc (Nat.le_trans F.la (by omega)) B vb vN vc hvc (Nat.le_trans F.lb (by omega)) F.sa F.sb (Tt ia ib ic id s) (PL ..) (Nat.le_trans (Xj ..) (by omega))) ?_;refine A3 ?_;refine Al 9 MC (fun g3=>?_);refine Ss 8 ?_;refine kL ?_;refine Cd ?_ ?_<;>intro hb1
  ·have hw0:((ay A B).map dV).length=0:=Classical.byContradiction fun e=>by rw[if_neg e] at hb1;exact absurd hb1 (by decide)
   have he1:(if((ay A B).map dV).length=0 then(36:Int) else 0)=36:=if_pos hw0;have hat:=F.atN (PL ia ib ic id s) hw0;refine A4 ?_;refine aW 41 (.bool true) rfl (congrArg Value.bool (decide_eq_true he1)) ?_;refine A3 ?_;refine aW 44 (.bool true) rfl (congrArg Value.bool (by rw[hat];rfl)) ?_;refine A6 ?_;refine aO rfl (ai rfl) (fun w hL=>⟨(),?_,hL.pk []⟩);exact rfl
  ·have hw1:((ay A B).map dV).length≠0:=fun e=>by rw[if_pos e] at hb1;exact absurd hb1 (by decide)
   refine A7 ?_;refine Rs 48 ?_ ?_<;>intro hb2
   ·refine kL ?_;refine aO rfl (ai rfl) (fun w hL=>⟨(),?_,hL.pk []⟩);exact rfl
   ·obtain⟨dd,hat⟩:∃dd,UX A B (Tt ia ib ic id s)=some dd:=by cases e:UX A B (Tt ia ib ic id s) with|none=>(rw[e] at hb2;exact absurd hb2 (by decide))|some dd=>exact⟨dd,rfl⟩
    refine L9 8 0 ?_;refine A1 ?_;refine L9 7 1 ?_;refine Pc (rJ ((UX A B (Tt ia ib ic id s)).getD (rl 0)) (fF ((ay A B).map dV)) (Nat.le_trans (F.atz (Xj ..)) (by omega)) (Nat.le_trans (F.greatz hw1) (by omega))) ?_;refine A1 ?_;refine aW 53 (.bool true) rfl (congrArg Value.bool (decide_eq_true (by rw[hat];exact F.atS (PL ..) hat))) ?_;refine A5 ?_;refine aO rfl (ai rfl) (fun w hL=>⟨(),?_,hL.pk []⟩);exact rfl
end Go.Proofs.YtaffcpfhedadhaaGreatDoor
