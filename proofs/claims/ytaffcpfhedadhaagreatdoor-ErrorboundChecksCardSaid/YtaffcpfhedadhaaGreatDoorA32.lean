/-
  Part 32 (chapter 32): lemmas, walks. Each theorem states its own conditions.
-/
import Derived.Shelf.SlSortCmp.WholeK
import Derived.Shelf.SlSortCmp.NoneTotal
import Derived.Lib.Repeat
import Derived.Sort.Grow
import Derived.Sort.EncStr
import Derived.Test.YtaffcpfhedadhaaGreatDoorA31
set_option linter.all false
set_option maxRecDepth 20000
set_option maxHeartbeats 20000000
section
variable{P Q:Prop}{T:Type}{R:T->Prop}
def qq4(h:P:=by refine A2 ?_;refine L10 5 0 ?_;refine A1 ?_;refine L10 7 0 ?_;refine Pc (JA fb x.1) ?_;refine(Bl 20 [(0,_)]) (IX) (fun g4=>?_);refine(Qa (s:=20) (len:=q.length) (n2:=1) 6 8 (fun r=>[_,_,_,_,_,_,⟨some r.g,61,ai aZ q++aZ (PW fb x.1),r.n,true⟩,_,_]) Yb P7) (dw.length q) h5 h6 (dw.one (PW fb x.1)) (fun r=>?_);refine qX ?_;refine kM ?_;exact Nl ⟨⟨i+1,m+x.2.1,n+x.2.2,false,fb,q++[PW fb x.1],some r.g,r.n,r.cap⟩,hlt,O8,O9,by rw[hI2,qkl hx hfar hnow];rw[hin,List.append_assoc];rfl,by rw[List.length_append];exact Nat.succ_le_succ hq,jT,r.hn⟩ (hμ:=Pe) (ht:=⟨rfl,rfl,(aO rfl kG),rfl,rfl,(aO rfl (congrArg Value.bool hnow)),rfl,rfl,rfl,trivial⟩) (hL:=(ay [some 0,some 1,some 2,some 3,some 4,some 5,some 6] ⟨pR,pR,pR,pR,pR,pR,⟨_,rfl,aV kH⟩,trivial⟩ rfl rfl))):=h
def Iu(q:Q)(h:aj Q->P:=by intro q_;refine A2 ?_;refine Nt 11 ?_;refine(Aq (n+x.2.2)) uw ?_;refine A1 ?_;exact q_.qq):=h ⟨q⟩
def KA(q:Q)(h:aj Q->P:=by intro q_;refine A2 ?_;refine Nt 5 ?_;refine(Aq (m+x.2.1)) uw ?_;refine A1 ?_;exact q_.qq):=h ⟨q⟩
def qq5(h:P:=by refine A2 ?_;refine L10 7 0 ?_;refine Ss 5 ?_;refine lh ?_;refine kM ?_;exact Nl ⟨⟨i+1,m+x.2.1,n+x.2.2,true,x.1,q,qb,qN,qc⟩,hlt,O8,O9,qau,Nat.le_succ_of_le hq,h5,h6⟩ (hμ:=Pe) (ht:=⟨rfl,rfl,rfl,rfl,rfl,(aO rfl (congrArg Value.bool hnow)),rfl,rfl,rfl,trivial⟩) (hL:=fE.auto)):=h
def qq6(h:P:=by refine lh ?_;refine kM ?_;exact Nl ⟨⟨i+1,m+x.2.1,n+x.2.2,false,fb,q,qb,qN,qc⟩,hlt,O8,O9,qau,Nat.le_succ_of_le hq,h5,h6⟩ (hμ:=Pe) (ht:=⟨rfl,rfl,rfl,rfl,rfl,(aO rfl (congrArg Value.bool hnow)),rfl,rfl,rfl,trivial⟩) (hL:=fE.auto)):=h
def qq7(h:P:=by refine Yc ?_;refine kM ?_;exact Nl ⟨⟨i+1,m+x.2.1,n+x.2.2,true,fb,q,qb,qN,qc⟩,hlt,O8,O9,qau,Nat.le_succ_of_le hq,h5,h6⟩ (hμ:=Pe) (ht:=⟨rfl,rfl,rfl,rfl,rfl,(aO rfl (congrArg Value.bool hnow)),rfl,rfl,rfl,trivial⟩) (hL:=fE.auto)):=h
def JC(h:P:=by refine A4 ?_;refine aH rfl (ax rfl) (fun w hL=>⟨z,?_,hL.pk [some 2]⟩);exact rfl):=h
def qap(h:P:=by refine Nt 12 ?_;refine(Iz 0 IY LJ) ?_;refine A1 ?_;exact Nw hd4 () [0,1,2,3,4,5,6,7]):=h
def qaq(h:P:=by refine Nt 12 ?_;refine(Iz 0 IY LJ) ?_;refine A1 ?_;exact Nw hd2 () [0,1,2,3,4,5,6,7]):=h
def qar(h:P:=by exact absurd au (of_decide_eq_false haQ)):=h
def qkF(h:P:=by refine Nt 14 ?_;refine(Iz 1 IY LJ) ?_;refine A1 ?_;exact Nw hd1 () [0,1,2,3,4,5,6,7]):=h
def qkG(q:∀x,R x)(h:aj (∀x,R x)->P:=by intro q_;refine zY ?_;refine Dq [3000000] [0,3,1,2,4,6,7,8,5,9] ?_;refine zO 4 0 ?_;refine zO 4 0 ?_;refine Pc (CZ x) ?_;refine(Bu [(0,_)]) (Tz) ?_;refine Kr 38 (EvV (x.b,0,0)) ?_;refine Pc (EQ x) ?_;refine Al 12 qnc (fun g2=>?_);exact q_.qq g2):=h ⟨q⟩
def qkH(q:Q)(h:aj Q->P:=by intro q_;refine A6 ?_;refine qbv _ (ay (L':=[_,⟨none,61,[],0,false⟩]) [some 0,none] ⟨pR,⟨rfl,rfl,rfl⟩,trivial⟩ rfl rfl) ?_;refine A2 ?_;exact q_.qq):=h ⟨q⟩
def qkI(q:Q)(h:aj Q->P:=by intro q_;refine(Iz 0 IY LJ) ?_;refine A2 ?_;refine(Iz 1 IY LJ) ?_;refine A2 ?_;refine qi [_,_] rfl rfl rfl rfl (hkp _ _) ?_;refine A9 ?_;exact q_.qq):=h ⟨q⟩
def qkJ(h:P:=by rw[hI];simp only[List.length_append,qcP,qcQ,List.length_take];omega):=h
def qas(h:P:=by show a.length-(i+1)<a.length-i;omega):=h
def qat(h:P:=by rw[pK];rfl):=h
def O8(h:P:=by show-((i+1:Nat):Int)<=m+x.2.1∧m+x.2.1<=((i+1:Nat):Int);omega):=h
def O9(h:P:=by show-((i+1:Nat):Int)<=n+x.2.2∧n+x.2.2<=((i+1:Nat):Int);omega):=h
def Pe(h:P:=by show l2.length-(i+1)<l2.length-i;omega):=h
def JD(h:P:=by have e:=hfQ;simpa using e):=h
def UX(h:P:=by rw[hnow];decide):=h
def yI(h:P:=by have e:=heQ;simpa using e):=h
def qau(h:P:=by rw[hI2,qkl hx hfar hnow];rw[hin];rfl):=h
end
namespace Go.Proofs.YtaffcpfhedadhaaGreatDoor
open Go Go.RowKit Go.Via
def Df{S:Rl->Prop}{ρ:Rl->Int}(T:dM S ρ)(kf:Nat)(keep:Bool->Bool->Bool)(hkp:∀x y,aG Tryz.prog kf #[.bool x,.bool y] (.bool (keep x y)))(h0:keep false false=false)(a:List Iv)(ab:Option Nat)(aN ac:Nat)(hac:a.length<=ac)(han:a.length<=1000)(b:List Iv)(bb:Option Nat)(bN bc:Nat)(hbc:b.length<=bc)(hbn:b.length<=1000)(ha:fU S a)(hb:fU S b)(oka:IG ρ a)(okb:IG ρ b)(hza:∀x∈a,gV x<=50000)(hzb:∀x∈b,gV x<=50000):bQ Tryz.prog 152 [⟨ab,61,ai aZ a,aN,false⟩,⟨bb,61,ai aZ b,bN,false⟩] [aB ab 0 a.length ac,aB bb 0 b.length bc,.func (.func kf) #[] #[]] (SR (dI keep a b).length) SR.v (fun z=>[⟨z.b,61,ai aZ (dI keep a b),z.n,true⟩]):=by
 refine⟨ak,fun w hL0=>?_⟩
 have hha:fU (fun x=>S x∧eU x<=50000) a:=fun i hi=>⟨⟨(ha i hi).1,Nat.le_trans (ig i) (hza i hi)⟩,(ha i hi).2,Nat.le_trans (gW i) (hza i hi)⟩
 have hhb:fU (fun x=>S x∧eU x<=50000) b:=fun i hi=>⟨⟨(hb i hi).1,Nat.le_trans (ig i) (hzb i hi)⟩,(hb i hi).2,Nat.le_trans (gW i) (hzb i hi)⟩
 refine cB3 127 Tryz.func152 hL0 ?_;refine II ?_;refine(Bl 2 [(0,_),(1,_)]) (qnu) (fun g0=>?_);refine A5 ?_;refine El (ι:={z:Nat×List O1×Option Nat×Nat×Nat // z.1<=2∧z.2.1=evK a b z.1∧z.2.1.length<=z.2.2.2.2∧z.2.2.2.2*12<=z.2.2.2.1}) (fun⟨⟨k,o,ob,oN,oc⟩,hk,hI,h3,h4⟩=>([(2,.func (.func kf) #[] #[]),(7,aB ob 0 o.length oc),(23,aB (some g0) 0 2 2),(24,.int .i64 2),(25,.int .i64 ((k:Nat):Int))],[⟨ab,61,ai aZ a,aN,false⟩,⟨bb,61,ai aZ b,bN,false⟩,⟨some g0,74,[aB ab 0 a.length ac,aB bb 0 b.length bc],2,true⟩,⟨ob,253,ai jR o,oN,true⟩],2-k)) ⟨⟨0,[],none,0,0⟩,Nat.zero_le _,rfl,Nat.le_refl _,bz⟩ ?_ (hL:=(ay [some 0,some 1,some 2,none] ⟨pR,pR,pR,⟨rfl,rfl,rfl⟩,trivial⟩ rfl rfl));rintro⟨⟨k,o,ob,oN,oc⟩,hk,hI,h3,h4⟩;(try dsimp only);replace hk:k<=2:=hk;replace hI:o=evK a b k:=hI;replace h3:o.length<=oc:=h3;replace h4:oc*12<=oN:=h4;rcases(show k=0∨k=1∨k=2 by omega) with rfl|rfl|rfl
 ·refine A6 ?_;refine Cd ?_ ?_<;>intro haQ
  ·refine A7 ?_;refine aJ 2 0 qvd qu4 rfl rfl rfl rfl rfl ae ae bz (by show 0+Int.toNat _*1=_;rfl) ?_;refine EE ?_;refine El (ι:={z:Nat×List O1×Option Nat×Nat×Nat // z.1<=a.length∧z.2.1=EC (a.take z.1)∧z.2.1.length<=z.2.2.2.2∧z.2.2.2.2*12<=z.2.2.2.1}) (fun⟨⟨i,o,ob,oN,oc⟩,hi,hI,h3,h4⟩=>([(2,.func (.func kf) #[] #[]),(7,aB ob 0 o.length oc),(23,aB (some g0) 0 2 2),(24,.int .i64 2),(25,.int .i64 ((0:Nat):Int)),(8,.int .i64 ((0:Nat):Int)),(30,aB ab 0 a.length ac),(31,bF (a.length)),(32,bF i)],[⟨ab,61,ai aZ a,aN,false⟩,⟨bb,61,ai aZ b,bN,false⟩,⟨some g0,74,[aB ab 0 a.length ac,aB bb 0 b.length bc],2,true⟩,⟨ob,253,ai jR o,oN,true⟩],a.length-i)) ⟨⟨0,o,ob,oN,oc⟩,Nat.zero_le _,hI,h3,h4⟩ ?_ (hL:=fE.auto);rintro⟨⟨i,o,ob,oN,oc⟩,hi,hI,h3,h4⟩;(try dsimp only);replace hi:i<=a.length:=hi;replace hI:o=EC (a.take i):=hI;replace h3:o.length<=oc:=h3;replace h4:oc*12<=oN:=h4;have hol:o.length<=10000:=qkJ
   refine A6 ?_;refine Cd ?_ ?_<;>intro hbQ
   ·have hlt:i<a.length:=kN;obtain⟨x,hx⟩:∃x,a[i]? =some x:=⟨a[i],List.getElem?_eq_getElem hlt⟩;refine dK 0 rfl (dw.ne au ae) (fun hbs=>?_);obtain⟨ga,hga⟩:=Option.isSome_iff_exists.1 hbs;replace hga:ab=some ga:=hga;subst hga;refine A6 ?_;refine qaa ?_;refine Al 20 z61 (fun g1=>?_);refine qkG fun g2=>?_;refine Al 12 qnc (fun g3=>?_);refine Ss 5 ?_;refine(Bu [(0,_)]) (Tz) ?_;refine Kr 41 (EvV (x.e,0,0)) ?_;refine Ss 6 ?_;refine A7 ?_;refine(Iz 10 IY LJ) ?_;refine Ss 5 ?_;refine A1 ?_;refine(Iz 10 IY LJ) ?_;refine Ss 6 ?_;refine A4 ?_;refine xg 5 0 ?_;refine Kr 49 (EvV (x.b,1,0)) ?_;refine xg 6 0 ?_;refine Kr 50 (EvV (x.e,-1,0)) ?_;refine(Bl 24 [(0,_),(1,_)]) (qbA) (fun g4=>?_);refine(Qa (s:=12) (len:=o.length) (n2:=2) 3 7 (fun r=>[_,_,_,⟨some r.g,253,ai jR o++(jR (x.b,1,0)++jR (x.e,-1,0)),r.n,true⟩,_,_,_,_]) qnw qp6) (yA.length o) h3 h4 (fun v hv=>List.all_eq_true.1 (show(jR (x.b,1,0)++jR (x.e,-1,0)).all (·.oneCell')=true from rfl) v hv) (fun r=>?_);refine qC ?_;exact Nl ⟨⟨i+1,o++[(x.b,1,0),(x.e,-1,0)],some r.g,r.n,r.cap⟩,hlt,by show o++_=EC (a.take (i+1));rw[<-qkd hx,<-hI],jT,r.hn⟩ (hμ:=qas) (ht:=⟨rfl,(aO rfl kG),rfl,rfl,rfl,rfl,rfl,rfl,rfl,trivial⟩) (hL:=(ay [some 0,some 1,some 2,some 3] ⟨pR,pR,pR,⟨_,rfl,aV qat⟩,trivial⟩ rfl rfl))
   ·have hge:i=a.length:=lw;subst hge;refine A7 ?_;refine(Aq ((0+1:Nat):Int)) OT ?_;refine A3 ?_;exact Nl ⟨⟨0+1,o,ob,oN,oc⟩,(by show 0+1<=2;decide),by show o=EC a;rw[hI,List.take_length],h3,h4⟩ (hμ:=(by show 2-(0+1)<2-0;decide)) (hL:=fE.auto)
  ·exact qar
 ·refine A6 ?_;refine Cd ?_ ?_<;>intro haQ
  ·refine A7 ?_;refine aJ 2 1 qvd qu4 rfl rfl rfl rfl rfl ae ae bz (by show 0+Int.toNat _*1=_;rfl) ?_;refine EE ?_;refine El (ι:={z:Nat×List O1×Option Nat×Nat×Nat // z.1<=b.length∧z.2.1=EC a++KO (b.take z.1)∧z.2.1.length<=z.2.2.2.2∧z.2.2.2.2*12<=z.2.2.2.1}) (fun⟨⟨i,o,ob,oN,oc⟩,hi,hI,h3,h4⟩=>([(2,.func (.func kf) #[] #[]),(7,aB ob 0 o.length oc),(23,aB (some g0) 0 2 2),(24,.int .i64 2),(25,.int .i64 ((1:Nat):Int)),(8,.int .i64 ((1:Nat):Int)),(30,aB bb 0 b.length bc),(31,bF (b.length)),(32,bF i)],[⟨ab,61,ai aZ a,aN,false⟩,⟨bb,61,ai aZ b,bN,false⟩,⟨some g0,74,[aB ab 0 a.length ac,aB bb 0 b.length bc],2,true⟩,⟨ob,253,ai jR o,oN,true⟩],b.length-i)) ⟨⟨0,o,ob,oN,oc⟩,Nat.zero_le _,by rw[hI];show EC a=EC a++[];simp,h3,h4⟩ ?_ (hL:=fE.auto);rintro⟨⟨i,o,ob,oN,oc⟩,hi,hI,h3,h4⟩;(try dsimp only);replace hi:i<=b.length:=hi;replace hI:o=EC a++KO (b.take i):=hI;replace h3:o.length<=oc:=h3;replace h4:oc*12<=oN:=h4;have hol:o.length<=10000:=qkJ
   refine A6 ?_;refine Cd ?_ ?_<;>intro hbQ
   ·have hlt:i<b.length:=kN;obtain⟨x,hx⟩:∃x,b[i]? =some x:=⟨b[i],List.getElem?_eq_getElem hlt⟩;refine dK 1 rfl (dw.ne au ae) (fun hbs=>?_);obtain⟨gb,hgb⟩:=Option.isSome_iff_exists.1 hbs;replace hgb:bb=some gb:=hgb;subst hgb;refine A6 ?_;refine qkB ?_;refine aT (v:=lC x) 1 ((i)*20) _ rfl rfl rfl rfl o7 (dw.sub hx 0 20 au) rfl au rfl ?_;refine Al 20 z61 (fun g1=>?_);refine qkG fun g2=>?_;refine Al 12 qnc (fun g3=>?_);refine Ss 5 ?_;refine(Bu [(0,_)]) (Tz) ?_;refine Kr 41 (EvV (x.e,0,0)) ?_;refine Ss 6 ?_;refine A7 ?_;refine(Iz 11 IY LJ) ?_;refine Ss 5 ?_;refine A1 ?_;refine(Iz 11 IY LJ) ?_;refine Ss 6 ?_;refine A4 ?_;refine xg 5 0 ?_;refine Kr 49 (EvV (x.b,0,1)) ?_;refine xg 6 0 ?_;refine Kr 50 (EvV (x.e,0,-1)) ?_;refine(Bl 24 [(0,_),(1,_)]) (qbA) (fun g4=>?_);refine(Qa (s:=12) (len:=o.length) (n2:=2) 3 7 (fun r=>[_,_,_,⟨some r.g,253,ai jR o++(jR (x.b,0,1)++jR (x.e,0,-1)),r.n,true⟩,_,_,_,_]) qnw qp6) (yA.length o) h3 h4 (fun v hv=>List.all_eq_true.1 (show(jR (x.b,0,1)++jR (x.e,0,-1)).all (·.oneCell')=true from rfl) v hv) (fun r=>?_);refine qC ?_;exact Nl ⟨⟨i+1,o++[(x.b,0,1),(x.e,0,-1)],some r.g,r.n,r.cap⟩,hlt,by show o++_=EC a++KO (b.take (i+1));rw[<-qke hx,<-List.append_assoc,<-hI],jT,r.hn⟩ (hμ:=(by show b.length-(i+1)<b.length-i;omega)) (ht:=⟨rfl,(aO rfl kG),rfl,rfl,rfl,rfl,rfl,rfl,rfl,trivial⟩) (hL:=(ay [some 0,some 1,some 2,some 3] ⟨pR,pR,pR,⟨_,rfl,aV qat⟩,trivial⟩ rfl rfl))
   ·have hge:i=b.length:=lw;subst hge;refine A7 ?_;refine(Aq ((1+1:Nat):Int)) OT ?_;refine A3 ?_;exact Nl ⟨⟨1+1,o,ob,oN,oc⟩,(by show 1+1<=2;decide),by show o=EC a++KO b;rw[hI,List.take_length],h3,h4⟩ (hμ:=(by show 2-(1+1)<2-1;decide)) (hL:=fE.auto)
  ·exact qar
 ·refine A6 ?_;refine Cd ?_ ?_<;>intro haQ
  ·exact absurd (of_decide_eq_true haQ) au
  ·refine A6 ?_;refine mG ?_;refine A1 ?_;have hp0:o=EC a++KO b:=hI;have hol:o.length<=10000:=by rw[hp0,List.length_append,qcP,qcQ];omega
   have hos:∀e∈o,S e.1.1∧eU e.1.1<=50000:=fun e he=>by rw[hp0] at he;exact qv2 (S:=fun x=>S x∧eU x<=50000) hha hhb he
   refine Gm 1 [3] [] (fun z=>[_,_,_,⟨ob,253,ai jR z.1,oN,true⟩]) (qkn T o ob oN oc h3 h4 hos) (fun z=>?_);obtain⟨l2,hp2,hs2⟩:=z;have hl2:l2.length=o.length:=hp2.length_eq;have hev:∀e∈l2,(S e.1.1∧eU e.1.1<=50000)∧ -1<=e.2.1∧e.2.1<=1∧ -1<=e.2.2∧e.2.2<=1:=fun e he=>by
    have he':=hp2.subset he;refine⟨hos e he',?_⟩;rw[hp0] at he';obtain⟨_,h1,h2⟩:=qkf he';exact⟨h1.1,h1.2,h2.1,h2.2⟩
   rw[hp0] at hp2;refine A9 ?_;refine Al 2 qxC (fun g1=>?_);refine A4 ?_;refine Al 10 qr5 (fun g2=>?_);refine Yc ?_;refine El (ι:={z:Nat×Int×Int×Bool×oZ×List Iv×Option Nat×Nat×Nat // z.1<=l2.length∧(-(z.1:Int)<=z.2.1∧z.2.1<=z.1)∧(-(z.1:Int)<=z.2.2.1∧z.2.2.1<=z.1)∧dI keep a b=z.2.2.2.2.2.1++swO (aI ρ) keep l2 z.1 z.2.1 z.2.2.1 z.2.2.2.1 z.2.2.2.2.1∧z.2.2.2.2.2.1.length<=z.1∧z.2.2.2.2.2.1.length<=z.2.2.2.2.2.2.2.2∧z.2.2.2.2.2.2.2.2*20<=z.2.2.2.2.2.2.2.1}) (fun⟨⟨i,m,n,inn,fb,q,qb,qN,qc⟩,hi,hm,hn,hI2,hq,h5,h6⟩=>([(2,.func (.func kf) #[] #[]),(7,aB ob 0 l2.length oc),(14,aB qb 0 q.length qc),(15,dA g1),(16,dA g2),(17,.bool inn),(57,aB ob 0 l2.length oc),(58,bF (l2.length)),(59,bF i)],[⟨ab,61,ai aZ a,aN,false⟩,⟨bb,61,ai aZ b,bN,false⟩,⟨some g0,74,[aB ab 0 a.length ac,aB bb 0 b.length bc],2,true⟩,⟨ob,253,ai jR l2,oN,true⟩,⟨some g1,251,[.int .i64 m,.int .i64 n],2,true⟩,⟨some g2,209,yu fb,10,true⟩,⟨qb,61,ai aZ q,qN,true⟩],l2.length-i)) ⟨⟨0,0,0,false,(rl 0,false),[],none,0,0⟩,Nat.zero_le _,au,au,(qki T h0 ha hb oka okb hp2 hs2 _).symm,Nat.le_refl _,Nat.le_refl _,bz⟩ ?_ (ht:=⟨rfl,(aO rfl (by rw[hl2])),rfl,rfl,rfl,rfl,(aO rfl (by rw[hl2])),(aO rfl (by rw[hl2])),rfl,trivial⟩) (hL:=(ay [some 0,some 1,some 2,some 3,some 4,some 5,none] ⟨pR,pR,pR,pR,pR,⟨_,rfl,aV (by rw[qtT];rfl)⟩,⟨rfl,rfl,rfl⟩,trivial⟩ rfl rfl));rintro⟨⟨i,m,n,inn,fb,q,qb,qN,qc⟩,hi,hm,hn,hI2,hq,h5,h6⟩;(try dsimp only);replace hi:i<=l2.length:=hi;replace hm: -(i:Int)<=m∧m<=i:=hm;replace hn: -(i:Int)<=n∧n<=i:=hn;replace hI2:dI keep a b=q++swO (aI ρ) keep l2 i m n inn fb:=hI2;replace hq:q.length<=i:=hq;replace h5:q.length<=qc:=h5;replace h6:qc*20<=qN:=h6;refine A6 ?_;refine Cd ?_ ?_<;>intro hbQ
   ·have hlt:i<l2.length:=kN;obtain⟨x,hx⟩:∃x,l2[i]? =some x:=⟨l2[i],List.getElem?_eq_getElem hlt⟩;obtain⟨hex,hx1,hx2,hx3,hx4⟩:=hev x (List.mem_of_getElem? hx);refine dK 3 rfl (yA.ne au ae) (fun hbs=>?_);obtain⟨go,hgo⟩:=Option.isSome_iff_exists.1 hbs;replace hgo:ob=some go:=hgo;subst hgo;refine A7 ?_;refine aJ 3 ((i)*12) qnw qgh rfl rfl rfl rfl rfl ae ae (yA.ne au ae) (by show 0+Int.toNat _*12=_;omega) ?_;refine aT (v:=EvV x) 3 ((i)*12) _ rfl rfl rfl rfl qgh (yA.sub hx 0 12 au) rfl au rfl ?_;refine Al 12 qnc (fun g3=>?_);refine A1 ?_;refine Ss 7 ?_;refine A3 ?_;let sX:List (Nat×Value)->List (Nat×Value):=fun l=>(2,.func (.func kf) #[] #[])::(7,aB (some go) 0 l2.length oc)::(14,aB qb 0 q.length qc)::(15,dA g1)::(16,dA g2)::(17,.bool inn)::(57,aB (some go) 0 l2.length oc)::(58,bF (l2.length))::(59,bF i)::(18,bF i)::(19,dA g3)::l;let sY:List aF->List aF:=fun l=>⟨ab,61,ai aZ a,aN,false⟩::⟨bb,61,ai aZ b,bN,false⟩::⟨some g0,74,[aB ab 0 a.length ac,aB bb 0 b.length bc],2,true⟩::⟨some go,253,ai jR l2,oN,true⟩::l;refine yV (nt:=127) (Z:=Unit) (fun _=>sX []) (fun _=>sY [⟨some g1,251,[.int .i64 (m+x.2.1),.int .i64 (n+x.2.2)],2,true⟩,⟨some g2,209,yu fb,10,true⟩,⟨qb,61,ai aZ q,qN,true⟩,⟨some g3,253,jR x,12,true⟩]) 16 [0,1,2,3,4,5,6,7,8,9,10,11,12,13,14,15] mixed ak (fun hd0=>?_) ?_
    ·refine bf (nt:=127) (Z:=Unit) (fun _=>sX [(75,.int .i64 (n+x.2.2)),(77,.pointer (some ⟨g1,1,none⟩))]) (fun _=>sY [⟨some g1,251,[.int .i64 (m+x.2.1),.int .i64 (n)],2,true⟩,⟨some g2,209,yu fb,10,true⟩,⟨qb,61,ai aZ q,qN,true⟩,⟨some g3,253,jR x,12,true⟩]) 1 [15] (fun z=>?_) (fun hd1=>?_)
     ·(try dsimp only);refine AY 15 ?_
      ·refine Ss 4 ?_;refine A1 ?_;exact Nw hd0 () [0,1,2,3,4,5,6,7]
     refine bf (nt:=127) (Z:=Unit) (fun _=>sX [(69,.int .i64 (m+x.2.1)),(75,.int .i64 (n+x.2.2)),(76,dA g1)]) (fun _=>sY [⟨some g1,251,[.int .i64 m,.int .i64 n],2,true⟩,⟨some g2,209,yu fb,10,true⟩,⟨qb,61,ai aZ q,qN,true⟩,⟨some g3,253,jR x,12,true⟩]) 3 [13,14,15] (fun z=>?_) (fun hd2=>?_)
     ·(try dsimp only);refine AY 13 ?_
      ·refine Ss 4 ?_;refine A1 ?_;exact qkF
     refine bf (nt:=127) (Z:=Unit) (fun _=>sX [(71,.int .i64 n),(73,.pointer (some ⟨g3,11,none⟩))]) (fun _=>sY [⟨some g1,251,[.int .i64 (m+x.2.1),.int .i64 (n)],2,true⟩,⟨some g2,209,yu fb,10,true⟩,⟨qb,61,ai aZ q,qN,true⟩,⟨some g3,253,jR x,12,true⟩]) 4 [10,11,14,15] (fun z=>?_) (fun hd3=>?_)
     ·(try dsimp only);refine AY 10 ?_
      ·refine Iu ?_;exact qkF
     refine bf (nt:=127) (Z:=Unit) (fun _=>sX [(69,.int .i64 (m+x.2.1)),(71,.int .i64 n),(73,.pointer (some ⟨g3,11,none⟩)),(76,dA g1)]) (fun _=>sY [⟨some g1,251,[.int .i64 m,.int .i64 n],2,true⟩,⟨some g2,209,yu fb,10,true⟩,⟨qb,61,ai aZ q,qN,true⟩,⟨some g3,253,jR x,12,true⟩]) 5 [10,11,13,14,15] (fun z=>?_) (fun hd4=>?_)
     ·(try dsimp only);refine bI [10,13] ak rfl ⟨⟨_,rfl,?_⟩,⟨_,rfl,?_⟩,trivial⟩
      ·refine Iu ?_;exact Nw hd2 () [0,1,2,3,4,5,6,7]
      ·refine Ss 4 ?_;refine A1 ?_;exact Nw hd3 () [0,1,2,3,4,5,6,7]
     refine bf (nt:=127) (Z:=Unit) (fun _=>sX [(64,dA g1),(68,.int .i64 x.2.1),(75,.int .i64 (n+x.2.2))]) (fun _=>sY [⟨some g1,251,[.int .i64 m,.int .i64 n],2,true⟩,⟨some g2,209,yu fb,10,true⟩,⟨qb,61,ai aZ q,qN,true⟩,⟨some g3,253,jR x,12,true⟩]) 6 [1,5,12,13,14,15] (fun z=>?_) (fun hd5=>?_)
     ·(try dsimp only);refine AY 1 ?_
      ·refine KA ?_;exact qaq
     refine bf (nt:=127) (Z:=Unit) (fun _=>sX [(65,.int .i64 m),(67,.pointer (some ⟨g3,10,none⟩)),(75,.int .i64 (n+x.2.2))]) (fun _=>sY [⟨some g1,251,[.int .i64 m,.int .i64 n],2,true⟩,⟨some g2,209,yu fb,10,true⟩,⟨qb,61,ai aZ q,qN,true⟩,⟨some g3,253,jR x,12,true⟩]) 6 [4,5,12,13,14,15] (fun z=>?_) (fun hd6=>?_)
     ·(try dsimp only);refine AY 4 ?_
      ·refine KA ?_;exact qaq
     refine bf (nt:=127) (Z:=Unit) (fun _=>sX [(69,.int .i64 (m+x.2.1)),(70,.pointer (some ⟨g1,1,none⟩)),(74,.int .i64 x.2.2)]) (fun _=>sY [⟨some g1,251,[.int .i64 m,.int .i64 n],2,true⟩,⟨some g2,209,yu fb,10,true⟩,⟨qb,61,ai aZ q,qN,true⟩,⟨some g3,253,jR x,12,true⟩]) 6 [7,11,12,13,14,15] (fun z=>?_) (fun hd7=>?_)
     ·(try dsimp only);refine AY 7 ?_
      ·refine Iu ?_;exact qaq
     refine bf (nt:=127) (Z:=Unit) (fun _=>sX [(64,dA g1),(67,.pointer (some ⟨g3,10,none⟩)),(75,.int .i64 (n+x.2.2))]) (fun _=>sY [⟨some g1,251,[.int .i64 m,.int .i64 n],2,true⟩,⟨some g2,209,yu fb,10,true⟩,⟨qb,61,ai aZ q,qN,true⟩,⟨some g3,253,jR x,12,true⟩]) 7 [1,4,5,12,13,14,15] (fun z=>?_) (fun hd8=>?_)
     ·(try dsimp only);refine bI [1,4] ak rfl ⟨⟨_,rfl,?_⟩,⟨_,rfl,?_⟩,trivial⟩
      ·refine A2 ?_;exact Nw hd6 () [0,1,2,3,4,5,6,7]
      ·refine A2 ?_;exact Nw hd5 () [0,1,2,3,4,5,6,7]
     refine bf (nt:=127) (Z:=Unit) (fun _=>sX [(69,.int .i64 (m+x.2.1)),(70,.pointer (some ⟨g1,1,none⟩)),(73,.pointer (some ⟨g3,11,none⟩))]) (fun _=>sY [⟨some g1,251,[.int .i64 m,.int .i64 n],2,true⟩,⟨some g2,209,yu fb,10,true⟩,⟨qb,61,ai aZ q,qN,true⟩,⟨some g3,253,jR x,12,true⟩]) 7 [7,10,11,12,13,14,15] (fun z=>?_) (fun hd9=>?_)
     ·(try dsimp only);refine bI [7,10] ak rfl ⟨⟨_,rfl,?_⟩,⟨_,rfl,?_⟩,trivial⟩
      ·refine A2 ?_;exact qap
      ·refine A2 ?_;exact Nw hd7 () [0,1,2,3,4,5,6,7]
     refine bf (nt:=127) (Z:=Unit) (fun _=>sX [(64,dA g1),(68,.int .i64 x.2.1),(70,.pointer (some ⟨g1,1,none⟩)),(74,.int .i64 x.2.2)]) (fun _=>sY [⟨some g1,251,[.int .i64 m,.int .i64 n],2,true⟩,⟨some g2,209,yu fb,10,true⟩,⟨qb,61,ai aZ q,qN,true⟩,⟨some g3,253,jR x,12,true⟩]) 8 [1,5,7,11,12,13,14,15] (fun z=>?_) (fun hd10=>?_)
     ·(try dsimp only);refine bI [1,7] ak rfl ⟨⟨_,rfl,?_⟩,⟨_,rfl,?_⟩,trivial⟩
      ·refine KA ?_;exact Nw hd7 () [0,1,2,3,4,5,6,7]
      ·refine Iu ?_;exact Nw hd5 () [0,1,2,3,4,5,6,7]
     refine bf (nt:=127) (Z:=Unit) (fun _=>sX [(64,dA g1),(68,.int .i64 x.2.1),(71,.int .i64 n),(73,.pointer (some ⟨g3,11,none⟩))]) (fun _=>sY [⟨some g1,251,[.int .i64 m,.int .i64 n],2,true⟩,⟨some g2,209,yu fb,10,true⟩,⟨qb,61,ai aZ q,qN,true⟩,⟨some g3,253,jR x,12,true⟩]) 8 [1,5,10,11,12,13,14,15] (fun z=>?_) (fun hd11=>?_)
     ·(try dsimp only);refine bI [1,10] ak rfl ⟨⟨_,rfl,?_⟩,⟨_,rfl,?_⟩,trivial⟩
      ·refine KA ?_;exact qap
      ·refine Iu ?_;exact Nw hd5 () [0,1,2,3,4,5,6,7]
     refine bf (nt:=127) (Z:=Unit) (fun _=>sX [(65,.int .i64 m),(67,.pointer (some ⟨g3,10,none⟩)),(70,.pointer (some ⟨g1,1,none⟩)),(74,.int .i64 x.2.2)]) (fun _=>sY [⟨some g1,251,[.int .i64 m,.int .i64 n],2,true⟩,⟨some g2,209,yu fb,10,true⟩,⟨qb,61,ai aZ q,qN,true⟩,⟨some g3,253,jR x,12,true⟩]) 8 [4,5,7,11,12,13,14,15] (fun z=>?_) (fun hd12=>?_)
     ·(try dsimp only);refine bI [4,7] ak rfl ⟨⟨_,rfl,?_⟩,⟨_,rfl,?_⟩,trivial⟩
      ·refine KA ?_;exact Nw hd7 () [0,1,2,3,4,5,6,7]
      ·refine Iu ?_;exact Nw hd6 () [0,1,2,3,4,5,6,7]
     refine bf (nt:=127) (Z:=Unit) (fun _=>sX [(65,.int .i64 m),(67,.pointer (some ⟨g3,10,none⟩)),(71,.int .i64 n),(73,.pointer (some ⟨g3,11,none⟩))]) (fun _=>sY [⟨some g1,251,[.int .i64 m,.int .i64 n],2,true⟩,⟨some g2,209,yu fb,10,true⟩,⟨qb,61,ai aZ q,qN,true⟩,⟨some g3,253,jR x,12,true⟩]) 8 [4,5,10,11,12,13,14,15] (fun z=>?_) (fun hd13=>?_)
     ·(try dsimp only);refine bI [4,10] ak rfl ⟨⟨_,rfl,?_⟩,⟨_,rfl,?_⟩,trivial⟩
      ·refine KA ?_;exact qap
      ·refine Iu ?_;exact Nw hd6 () [0,1,2,3,4,5,6,7]
     refine bf (nt:=127) (Z:=Unit) (fun _=>sX [(64,dA g1),(67,.pointer (some ⟨g3,10,none⟩)),(70,.pointer (some ⟨g1,1,none⟩)),(74,.int .i64 x.2.2)]) (fun _=>sY [⟨some g1,251,[.int .i64 m,.int .i64 n],2,true⟩,⟨some g2,209,yu fb,10,true⟩,⟨qb,61,ai aZ q,qN,true⟩,⟨some g3,253,jR x,12,true⟩]) 9 [1,4,5,7,11,12,13,14,15] (fun z=>?_) (fun hd14=>?_)
     ·(try dsimp only);refine bI [1,4,7] ak rfl ⟨⟨_,rfl,?_⟩,⟨_,rfl,?_⟩,⟨_,rfl,?_⟩,trivial⟩
      ·refine A2 ?_;exact Nw hd12 () [0,1,2,3,4,5,6,7]
      ·refine A2 ?_;exact Nw hd10 () [0,1,2,3,4,5,6,7]
      ·refine Iu ?_;exact Nw hd8 () [0,1,2,3,4,5,6,7]
     refine bf (nt:=127) (Z:=Unit) (fun _=>sX [(64,dA g1),(67,.pointer (some ⟨g3,10,none⟩)),(71,.int .i64 n),(73,.pointer (some ⟨g3,11,none⟩))]) (fun _=>sY [⟨some g1,251,[.int .i64 m,.int .i64 n],2,true⟩,⟨some g2,209,yu fb,10,true⟩,⟨qb,61,ai aZ q,qN,true⟩,⟨some g3,253,jR x,12,true⟩]) 9 [1,4,5,10,11,12,13,14,15] (fun z=>?_) (fun hd15=>?_)
     ·(try dsimp only);refine bI [1,4,10] ak rfl ⟨⟨_,rfl,?_⟩,⟨_,rfl,?_⟩,⟨_,rfl,?_⟩,trivial⟩
      ·refine A2 ?_;exact Nw hd13 () [0,1,2,3,4,5,6,7]
      ·refine A2 ?_;exact Nw hd11 () [0,1,2,3,4,5,6,7]
      ·refine Iu ?_;exact Nw hd8 () [0,1,2,3,4,5,6,7]
     refine bf (nt:=127) (Z:=Unit) (fun _=>sX [(64,dA g1),(68,.int .i64 x.2.1),(70,.pointer (some ⟨g1,1,none⟩)),(73,.pointer (some ⟨g3,11,none⟩))]) (fun _=>sY [⟨some g1,251,[.int .i64 m,.int .i64 n],2,true⟩,⟨some g2,209,yu fb,10,true⟩,⟨qb,61,ai aZ q,qN,true⟩,⟨some g3,253,jR x,12,true⟩]) 9 [1,5,7,10,11,12,13,14,15] (fun z=>?_) (fun hd16=>?_)
     ·(try dsimp only);refine bI [1,7,10] ak rfl ⟨⟨_,rfl,?_⟩,⟨_,rfl,?_⟩,⟨_,rfl,?_⟩,trivial⟩
      ·refine KA ?_;exact Nw hd9 () [0,1,2,3,4,5,6,7]
      ·refine A2 ?_;exact Nw hd11 () [0,1,2,3,4,5,6,7]
      ·refine A2 ?_;exact Nw hd10 () [0,1,2,3,4,5,6,7]
     refine bf (nt:=127) (Z:=Unit) (fun _=>sX [(65,.int .i64 m),(67,.pointer (some ⟨g3,10,none⟩)),(70,.pointer (some ⟨g1,1,none⟩)),(73,.pointer (some ⟨g3,11,none⟩))]) (fun _=>sY [⟨some g1,251,[.int .i64 m,.int .i64 n],2,true⟩,⟨some g2,209,yu fb,10,true⟩,⟨qb,61,ai aZ q,qN,true⟩,⟨some g3,253,jR x,12,true⟩]) 9 [4,5,7,10,11,12,13,14,15] (fun z=>?_) (fun hd17=>?_)
     ·(try dsimp only);refine bI [4,7,10] ak rfl ⟨⟨_,rfl,?_⟩,⟨_,rfl,?_⟩,⟨_,rfl,?_⟩,trivial⟩
      ·refine KA ?_;exact Nw hd9 () [0,1,2,3,4,5,6,7]
      ·refine A2 ?_;exact Nw hd13 () [0,1,2,3,4,5,6,7]
      ·refine A2 ?_;exact Nw hd12 () [0,1,2,3,4,5,6,7]
     refine Nt 0 ?_;refine(Iz 0 IY LJ) ?_;refine A1 ?_;refine Nt 2 ?_;refine Fg 0 10 ?_;refine A1 ?_;refine Nt 3 ?_;refine(Iz 10 IY LJ) ?_;refine A1 ?_;refine Nt 6 ?_;refine(Iz 1 IY LJ) ?_;refine A1 ?_;refine Nt 8 ?_;refine Fg 0 10 ?_;refine A1 ?_;refine Nt 9 ?_;refine(Iz 11 IY LJ) ?_;refine A1 ?_;refine bI [1,4,7,10] ak rfl ⟨⟨_,rfl,?_⟩,⟨_,rfl,?_⟩,⟨_,rfl,?_⟩,⟨_,rfl,?_⟩,trivial⟩
     ·refine A2 ?_;exact Nw hd17 () [0,1,2,3,4,5,6,7]
     ·refine A2 ?_;exact Nw hd16 () [0,1,2,3,4,5,6,7]
     ·refine A2 ?_;exact Nw hd15 () [0,1,2,3,4,5,6,7]
     ·refine A2 ?_;exact Nw hd14 () [0,1,2,3,4,5,6,7]
    intro _;show At _ ⟨127,[(2,.func (.func kf) #[] #[]),(7,aB (some go) 0 l2.length oc),(14,aB qb 0 q.length qc),(15,dA g1),(16,dA g2),(17,.bool inn),(57,aB (some go) 0 l2.length oc),(58,bF (l2.length)),(59,bF i),(18,bF i),(19,dA g3)],[⟨ab,61,ai aZ a,aN,false⟩,⟨bb,61,ai aZ b,bN,false⟩,⟨some g0,74,[aB ab 0 a.length ac,aB bb 0 b.length bc],2,true⟩,⟨some go,253,ai jR l2,oN,true⟩,⟨some g1,251,[.int .i64 (m+x.2.1),.int .i64 (n+x.2.2)],2,true⟩,⟨some g2,209,yu fb,10,true⟩,⟨qb,61,ai aZ q,qN,true⟩,⟨some g3,253,jR x,12,true⟩]⟩ _;refine A3 ?_;refine wE ?_;refine rG ?_;refine A4 ?_;refine Rs 83 ?_ ?_<;>intro hcQ
    ·have hjt:i+1<l2.length:=tJ;obtain⟨y,hy⟩:∃y,l2[i+1]? =some y:=⟨l2[i+1],List.getElem?_eq_getElem hjt⟩;have hey:=(hev y (List.mem_of_getElem? hy)).1;refine A1 ?_;refine L10 7 0 ?_;refine A2 ?_;refine rG ?_;refine aJ 3 ((i+1)*12) qnw qgh rfl rfl rfl rfl rfl ae ae (yA.ne au ae) (by show 0+Int.toNat _*12=_;omega) ?_;refine Fg ((i+1)*12) 0 ?_;refine aT (v:=BdV y.1) 3 ((i+1)*12+0) _ rfl rfl rfl rfl qu5 (yA.sub hy 0 10 au) rfl au rfl ?_;refine Pc (rW x.1 y.1 hex.2 hey.2) ?_;refine A4 ?_;refine Cd ?_ ?_<;>intro hdQ
     ·have hc0:yg x.1 y.1=0:=eq_of_beq hdQ;refine qC ?_;exact Nl ⟨⟨i+1,m+x.2.1,n+x.2.2,inn,fb,q,qb,qN,qc⟩,hlt,O8,O9,by rw[<-qkk T hx hy hex.1 hey.1 hc0];exact hI2,Nat.le_succ_of_le hq,h5,h6⟩ (hμ:=Pe) (hL:=fE.auto)
     ·have hc0:yg x.1 y.1≠0:=ne_of_beq_false hdQ;have hfar:=qtS T hy hex.1 hey.1 hc0;refine A5 ?_;refine qkI ?_;refine Rs 105 ?_ ?_<;>intro heQ
      ·have hnow:keep (decide (0<m+x.2.1)) (decide (0<n+x.2.2))=true:=heQ;refine A6 ?_;refine Cd ?_ ?_<;>intro hfQ
       ·have hin:inn=false:=JD
        exact qq5
       ·have hin:inn=true:=JD
        refine A5 ?_;refine Rs 114 ?_ ?_<;>intro hgQ
        ·exact absurd hgQ UX
        ·exact qq7
      ·have hnow:keep (decide (0<m+x.2.1)) (decide (0<n+x.2.2))=false:=heQ;refine oH ?_;refine Rs 114 ?_ ?_<;>intro hfQ
       ·refine A5 ?_;refine Cd ?_ ?_<;>intro hgQ
        ·have hin:inn=true:=hgQ;exact qq4
        ·have hin:inn=false:=hgQ;exact qq6
       ·exact absurd hfQ UX
    ·have hfar:Far ρ l2 i x:=qpk (of_decide_eq_false hcQ|>fun e=>ae);refine A19 ?_;refine qkI ?_;refine Rs 105 ?_ ?_<;>intro hdQ
     ·have hnow:keep (decide (0<m+x.2.1)) (decide (0<n+x.2.2))=true:=hdQ;refine A6 ?_;refine Cd ?_ ?_<;>intro heQ
      ·have hin:inn=false:=yI
       exact qq5
      ·have hin:inn=true:=yI
       refine A5 ?_;refine Rs 114 ?_ ?_<;>intro hfQ
       ·exact absurd hfQ UX
       ·exact qq7
     ·have hnow:keep (decide (0<m+x.2.1)) (decide (0<n+x.2.2))=false:=hdQ;refine oH ?_;refine Rs 114 ?_ ?_<;>intro heQ
      ·refine A5 ?_;refine Cd ?_ ?_<;>intro hfQ
       ·have hin:inn=true:=hfQ;exact qq4
       ·have hin:inn=false:=hfQ;exact qq6
      ·exact absurd heQ UX
   ·have hge:i=l2.length:=lw;subst hge;obtain rfl:q=dI keep a b:=by rw[hI2,qpj,List.append_nil]
    refine oH ?_;refine aH rfl (ax rfl) (fun w hL=>⟨⟨qb,qN,qc,h5⟩,?_,hL.pk [some 6]⟩);exact rfl
def Pg{S:Rl->Prop}{ρ:Rl->Int}(T:dM S ρ)(a:List Iv)(ab:Option Nat)(aN ac:Nat)(hac:a.length<=ac)(han:a.length<=1000)(b:List Iv)(bb:Option Nat)(bN bc:Nat)(hbc:b.length<=bc)(hbn:b.length<=1000)(ha:fU S a)(hb:fU S b)(oka:IG ρ a)(okb:IG ρ b)(hza:∀x∈a,gV x<=50000)(hzb:∀x∈b,gV x<=50000):bQ Tryz.prog 104 [⟨ab,61,ai aZ a,aN,false⟩,⟨bb,61,ai aZ b,bN,false⟩] [aB ab 0 a.length ac,aB bb 0 b.length bc] (SR (dI orB a b).length) SR.v (fun z=>[⟨z.b,61,ai aZ (dI orB a b),z.n,true⟩]):=by
 refine sB2 8 Tryz.func104 fun w hL0=>?_;refine A9 ?_;refine(Sc [0,1]) (Df T 153 orB KZ rfl a ab aN ac hac han b bb bN bc hbc hbn ha hb oka okb hza hzb) (fun z=>?_);exact JC
def Ph{S:Rl->Prop}{ρ:Rl->Int}(T:dM S ρ)(a:List Iv)(ab:Option Nat)(aN ac:Nat)(hac:a.length<=ac)(han:a.length<=1000)(b:List Iv)(bb:Option Nat)(bN bc:Nat)(hbc:b.length<=bc)(hbn:b.length<=1000)(ha:fU S a)(hb:fU S b)(oka:IG ρ a)(okb:IG ρ b)(hza:∀x∈a,gV x<=50000)(hzb:∀x∈b,gV x<=50000):bQ Tryz.prog 151 [⟨ab,61,ai aZ a,aN,false⟩,⟨bb,61,ai aZ b,bN,false⟩] [aB ab 0 a.length ac,aB bb 0 b.length bc] (SR (dI (fun x y=>x&& !y) a b).length) SR.v (fun z=>[⟨z.b,61,ai aZ (dI (fun x y=>x&& !y) a b),z.n,true⟩]):=by
 refine sB2 8 Tryz.func151 fun w hL0=>?_;refine A9 ?_;refine(Sc [0,1]) (Df T 191 (fun x y=>x&& !y) La rfl a ab aN ac hac han b bb bN bc hbc hbn ha hb oka okb hza hzb) (fun z=>?_);exact JC
def uz{S:Rl->Prop}{ρ:Rl->Int}(T:dM S ρ)(l:List Iv)(lb:Option Nat)(lN lc:Nat)(hlc:l.length<=lc)(hln:l.length<=1000)(hs:fU S l)(hok:IG ρ l)(hsz:∀x∈l,gV x<=50000):bQ Tryz.prog 50 [⟨lb,61,ai aZ l,lN,false⟩] [aB lb 0 l.length lc] (SR (dY l).length) SR.v (fun z=>[⟨z.b,61,ai aZ (dY l),z.n,true⟩]):=by
 refine Qg 5 Tryz.func50 fun w hL0=>?_;refine qkH ?_;refine iJ [_,aB none 0 ([]:List Iv).length 0] [0,1] rfl rfl rfl (Pg T l lb lN lc hlc hln [] none 0 0 (Nat.le_refl _) (Nat.zero_le _) hs tY hok (fun x hx=>by cases hx) hsz (fun x hx=>by cases hx)) ⟨pR,pR,trivial⟩ rfl (.inr fun x b hb=>xO) (fun z=>?_);exact JC
def Lh{S:Rl->Prop}{ρ:Rl->Int}(T:dM S ρ)(a:List Iv)(ab:Option Nat)(aN ac:Nat)(hac:a.length<=ac)(han:a.length<=1000)(b:List Iv)(bb:Option Nat)(bN bc:Nat)(hbc:b.length<=bc)(hbn:b.length<=1000)(ha:fU S a)(hb:fU S b)(oka:IG ρ a)(okb:IG ρ b)(hza:∀x∈a,gV x<=50000)(hzb:∀x∈b,gV x<=50000):bQ Tryz.prog 102 [⟨ab,61,ai aZ a,aN,false⟩,⟨bb,61,ai aZ b,bN,false⟩] [aB ab 0 a.length ac,aB bb 0 b.length bc] Unit (fun _=> .bool (dI (fun x y=>x&& !y) b a).isEmpty) (fun _=>[]):=by
 refine sB2 10 Tryz.func102 fun w hL0=>?_;refine A9 ?_;refine(Sc [1,0]) (Ph T b bb bN bc hbc hbn a ab aN ac hac han hb ha okb oka hzb hza) (fun z=>?_);refine A6 ?_;refine aH rfl (ax rfl) (fun w hL=>⟨(),?_,hL.pk []⟩);exact eB (by cases dI (fun x y=>x&& !y) b a<;>rfl)
end Go.Proofs.YtaffcpfhedadhaaGreatDoor
