/-
  Part 45 (chapter 32): lemmas, walks. Each theorem states its own conditions.
-/
import Derived.Shelf.SlSortCmp.WholeK
import Derived.Shelf.SlSortCmp.NoneTotal
import Derived.Lib.Repeat
import Derived.Sort.Grow
import Derived.Sort.EncStr
import Derived.Lib.SliceRun
import Derived.Test.YtaffcpfhedadhaaGreatDoorA43
set_option linter.all false
set_option maxRecDepth 20000
set_option maxHeartbeats 20000000
section
variable{P Q:Prop}{T:Type}{R:T->Prop}
def qhv(h:P:=by have e:=hdQ;rw[hoe,hqe] at e;simpa using e):=h
end
namespace Go.Proofs.YtaffcpfhedadhaaGreatDoor
open Go Go.RowKit Go.Via
def oV{S:Rl->Prop}{ρ:Rl->Int}(T:dZ S ρ)(a:List PU)(ab:Option Nat)(aN ac:Nat)(hac:a.length<=ac)(han:a.length<=200)(b:List PU)(bb:Option Nat)(bN bc:Nat)(hbc:b.length<=bc)(hbn:b.length<=200)(hsa:GX a)(hsb:GX b)(H:GL a b)(c:List lM)(cb:Option Nat)(cN cc:Nat)(hcc:c.length<=cc)(hcn:c.length<=400)(m:Rl)(hcz:∀p∈c,jM p.i<=5000∧fV p.a<=5000∧fV p.b<=5000)(hmz:fV m<=5000)(hPS:∀x∈(ag a b),(S x.1.f∧S x.1.t)∧aK ρ x.1.b<aK ρ x.1.e)(hcS:∀p∈c,S p.i.f∧S p.i.t):cZ Tryz.prog 16 [⟨ab,100,aj aP a,aN,false⟩,⟨bb,100,aj aP b,bN,false⟩,⟨cb,63,aj aZ c,cN,false⟩] [aA ab 0 a.length ac,aA bb 0 b.length bc,BD (aA cb 0 c.length cc) m] Unit (fun _=> .int .i64 (qF a b c m)) (fun _=>[]):=by
 refine⟨ak,fun w hL0=>?_⟩;have hpl:=uD a b;have hpz:=yH hsa hsb;refine cB3 78 Tryz.func16 hL0 ?_;refine A2 ?_;refine Bp 10 (fun g0=>?_);refine A7 ?_;refine(Sc [0,1]) (oU a ab aN ac hac ae b bb bN bc hbc ae hsa hsb) (fun zr=>?_);obtain⟨rb,rN,rc,hrc⟩:=zr;refine qC ?_;refine Cd ?_ ?_<;>intro haQ
 ·have hk0:(ag a b).length=0:=xQ
  refine A7 ?_;refine aO rfl (au rfl) (fun w hL=>⟨(),?_,hL.pk []⟩);exact congrArg (fun e:Int=>Ending.returned (.int .i64 e)) (qqN hk0)
 ·have hk0:(ag a b).length≠0:=xQ
  refine A23 ?_;refine El (ι:={z:Nat×List Iv×Option Nat×Nat×Nat // z.1<=c.length∧z.2.1=(c.take z.1).map (·.i)∧z.2.1.length<=z.2.2.2.2∧z.2.2.2.2*20<=z.2.2.2.1∧jL (l9 (ag a b)) none c=jL (l9 (ag a b)) (yG c z.1) (c.drop z.1)∧∀q∈c.take z.1,lD q.i=true}) (fun⟨⟨i,o,ob,oN,oc⟩,hi,hI,h3,h4,hLL,hOK⟩=>([(5,bf g0),(7,aA rb 0 (ag a b).length rc),(8,.pointer (ckB cb i)),(9,aA ob 0 o.length oc),(10,.slice none 0 0),(23,aA cb 0 c.length cc),(24,bH (c.length)),(25,bH i)],[⟨ab,100,aj aP a,aN,false⟩,⟨bb,100,aj aP b,bN,false⟩,⟨cb,63,aj aZ c,cN,false⟩,⟨some g0,40,iE (aA cb 0 c.length cc) m,10,true⟩,⟨rb,93,aj Ep (ag a b),rN,true⟩,⟨ob,61,aj bT o,oN,true⟩],c.length-i)) ⟨⟨0,[],none,0,0⟩,Nat.zero_le _,rfl,Nat.le_refl _,bz,rfl,fun q hq=>by simp at hq⟩ ?_ (hL:=(az [some 0,some 1,some 2,some 3,some 4,none] ⟨pR,pR,pR,pR,pR,⟨rfl,rfl,rfl⟩,trivial⟩ rfl rfl));rintro⟨⟨i,o,ob,oN,oc⟩,hi,hI,h3,h4,hLL,hOK⟩;(try dsimp only);replace hi:i<=c.length:=hi;replace hI:o=(c.take i).map (·.i):=hI;replace h3:o.length<=oc:=h3;replace h4:oc*20<=oN:=h4;replace hLL:jL (l9 (ag a b)) none c=jL (l9 (ag a b)) (yG c i) (c.drop i):=hLL;replace hOK:∀q∈c.take i,lD q.i=true:=hOK
  have hol:o.length<=400:=Yv;refine A6 ?_;refine Cd ?_ ?_<;>intro hbQ
  ·have hlt:i<c.length:=lu;obtain⟨p,hp⟩:∃p,c[i]? =some p:=⟨c[i],List.getElem?_eq_getElem hlt⟩;have hpm:=List.mem_of_getElem? hp;refine dQ 2 rfl (dH.ne ax ae) (fun hbs=>?_);obtain⟨gc,hgc⟩:=Option.isSome_iff_exists.1 hbs;replace hgc:cb=some gc:=hgc;subst hgc;refine A7 ?_;refine aG 2 ((i)*38) u32 Hl rfl rfl rfl rfl rfl ae ae (dH.ne ax ae) EE ?_;refine bu (v:=wU p) 2 ((i)*38) _ rfl rfl rfl rfl Hl (dH.sub hp 0 38 ax) rfl ax rfl ?_;refine Al 38 Ou (fun g1=>?_);refine A1 ?_;refine Ss 6 ?_;refine A6 ?_;refine Bg 6 0 ?_;refine A1 ?_;refine(Sd [4,2]) (TD T (ag a b) rb rN rc hrc ae hPS (fun x hx=>⟨Nat.le_trans (hpz x hx).1 ae,Nat.le_trans (hpz x hx).2 ae⟩) c gc cN cc hcc ae (fun q hq=>Nat.le_trans (hcz q hq).1 ae) p (hcS p hpm) (hcz p hpm) i hi) ?_;refine A9 ?_;refine Cd ?_ ?_<;>intro hcQ
   ·have he:l9 (ag a b) (yG c i) p≠0:=xX
    refine FN ?_;refine aO rfl (au rfl) (fun w hL=>⟨(),?_,hL.pk []⟩);exact congrArg (fun e:Int=>Ending.returned (.int .i64 e)) (qsG hk0 (qof hp hLL rfl he) he)
   ·have he:l9 (ag a b) (yG c i) p=0:=xX
    refine A7 ?_;refine aG 2 ((i)*38) u32 Hl rfl rfl rfl rfl rfl ae ae (dH.ne ax ae) EE ?_;refine A6 ?_;refine yK 6 0 ?_;refine(Bl 20 [(0,_)]) (lK) (fun g2=>?_);refine(Qa (s:=20) (len:=o.length) (n2:=1) 5 7 (fun r=>[_,_,_,_,_,⟨some r.g,61,aj bT o++bT (p.i),r.n,true⟩,_,_]) TG QX) (cO.length o) h3 h4 (cO.one (p.i)) (fun r=>?_);refine A5 ?_;refine dP ?_;exact Nl ⟨⟨i+1,o++[p.i],some r.g,r.n,r.cap⟩,hlt,by show o++[p.i]=(c.take (i+1)).map (·.i);rw[<-fO hp,List.map_append,<-hI];rfl,jB,r.hn,qqm hp hLL he,qaM hp hOK (qkH he)⟩ (hμ:=(by show c.length-(i+1)<c.length-i;omega)) (ht:=⟨rfl,rfl,rfl,(aQ rfl jO),rfl,rfl,rfl,rfl,trivial⟩) (hL:=(az [some 0,some 1,some 2,some 3,some 4,some 5] ⟨pR,pR,pR,pR,pR,⟨_,rfl,bg kz⟩,trivial⟩ rfl rfl))
  ·have hge:i=c.length:=lw;subst hge;have hl0:=qog hLL;have hoe:o=c.map (·.i):=Bv
   refine EK ?_;refine El (ι:={z:Nat×List Iv×Option Nat×Nat×Nat // z.1<=(ag a b).length∧z.2.1=((ag a b).take z.1).map (·.1)∧z.2.1.length<=z.2.2.2.2∧z.2.2.2.2*20<=z.2.2.2.1}) (fun⟨⟨j,q,qb,qN,qc⟩,hj,hJ,h5,h6⟩=>([(5,bf g0),(7,aA rb 0 (ag a b).length rc),(9,aA ob 0 o.length oc),(10,aA qb 0 q.length qc),(47,aA rb 0 (ag a b).length rc),(48,bH ((ag a b).length)),(49,bH j)],[⟨ab,100,aj aP a,aN,false⟩,⟨bb,100,aj aP b,bN,false⟩,⟨cb,63,aj aZ c,cN,false⟩,⟨some g0,40,iE (aA cb 0 c.length cc) m,10,true⟩,⟨rb,93,aj Ep (ag a b),rN,true⟩,⟨ob,61,aj bT o,oN,true⟩,⟨qb,61,aj bT q,qN,true⟩],(ag a b).length-j)) ⟨⟨0,[],none,0,0⟩,Nat.zero_le _,rfl,Nat.le_refl _,bz⟩ ?_ (hL:=(az [some 0,some 1,some 2,some 3,some 4,some 5,none] ⟨pR,pR,pR,pR,pR,pR,⟨rfl,rfl,rfl⟩,trivial⟩ rfl rfl));rintro⟨⟨j,q,qb,qN,qc⟩,hj,hJ,h5,h6⟩;(try dsimp only);replace hj:j<=(ag a b).length:=hj;replace hJ:q=((ag a b).take j).map (·.1):=hJ;replace h5:q.length<=qc:=h5;replace h6:qc*20<=qN:=h6;have hql:q.length<=400:=by rw[hJ,List.length_map,List.length_take];omega
   refine A6 ?_;refine Cd ?_ ?_<;>intro hcQ
   ·have hjt:j<(ag a b).length:=qL;obtain⟨y,hy⟩:∃y,(ag a b)[j]? =some y:=⟨_,List.getElem?_eq_getElem hjt⟩;refine dQ 4 rfl (tH.ne ax ae) (fun hbs=>?_);obtain⟨gr,hgr⟩:=Option.isSome_iff_exists.1 hbs;replace hgr:rb=some gr:=hgr;subst hgr;refine A6 ?_;refine aG 4 ((j)*32) u88 qbm rfl rfl rfl rfl rfl ae ae (tH.ne ax ae) Yz ?_;refine bu (v:=PtV y) 4 ((j)*32) _ rfl rfl rfl rfl qbm (tH.sub hy 0 32 ax) rfl ax rfl ?_;refine Al 32 z93 (fun g1=>?_);refine Ss 7 ?_;refine A5 ?_;refine yK 7 0 ?_;refine(Bl 20 [(0,_)]) (lK) (fun g2=>?_);refine(Qa (s:=20) (len:=q.length) (n2:=1) 6 8 (fun r=>[_,_,_,_,_,_,⟨some r.g,61,aj bT q++bT (y.1),r.n,true⟩,_,_]) TG QX) (cO.length q) h5 h6 (cO.one (y.1)) (fun r=>?_);refine A5 ?_;refine Ar (((j+1:Nat):Int)) ?_;refine A3 ?_;exact Nl ⟨⟨j+1,q++[y.1],some r.g,r.n,r.cap⟩,hjt,by show q++[y.1]=((ag a b).take (j+1)).map (·.1);rw[<-fO hy,List.map_append,<-hJ];rfl,jB,r.hn⟩ (hμ:=(by show(ag a b).length-(j+1)<(ag a b).length-j;omega)) (ht:=⟨rfl,rfl,rfl,(aQ rfl jO),rfl,rfl,rfl,trivial⟩) (hL:=(az [some 0,some 1,some 2,some 3,some 4,some 5,some 6] ⟨pR,pR,pR,pR,pR,pR,⟨_,rfl,bg kz⟩,trivial⟩ rfl rfl))
   ·have hge2:j=(ag a b).length:=sJ;subst hge2;have hqe:q=(ag a b).map (·.1):=by rw[hJ,List.take_length]
    refine lW ?_;have hoS:iU S o:=fun x hx=>by rw[hoe] at hx;obtain⟨z,hz,rfl⟩:=List.mem_map.1 hx;exact hcS z hz
    have hoK:HY ρ o:=fun x hx=>by rw[hoe] at hx;obtain⟨z,hz,rfl⟩:=List.mem_map.1 hx;exact(sO T (hcS z hz).1 (hcS z hz).2).1 (hOK z (by rw[List.take_length];exact hz))
    have hoz:∀x∈o,jM x<=50000:=fun x hx=>by rw[hoe] at hx;obtain⟨z,hz,rfl⟩:=List.mem_map.1 hx;exact Nat.le_trans (hcz z hz).1 ae
    have hqS:iU S q:=fun x hx=>by rw[hqe] at hx;obtain⟨z,hz,rfl⟩:=List.mem_map.1 hx;exact(hPS z hz).1
    have hqK:HY ρ q:=fun x hx=>by rw[hqe] at hx;obtain⟨z,hz,rfl⟩:=List.mem_map.1 hx;exact(hPS z hz).2
    have hqz:∀x∈q,jM x<=50000:=fun x hx=>by rw[hqe] at hx;obtain⟨z,hz,rfl⟩:=List.mem_map.1 hx;exact Nat.le_trans (hpz z hz).1 ae
    have hno:=Qq orB o [];have hnq:=Qq orB q [];replace hno:(ji o).length<=4*o.length:=hno;replace hnq:(ji q).length<=4*q.length:=hnq;refine(Sc [5]) (tN T o ob oN oc h3 ae hoS hoK hoz) (fun z1=>?_);refine A1 ?_;refine(Sc [6]) (tN T q qb qN qc h5 ae hqS hqK hqz) (fun z2=>?_);refine(Sd [7,8]) (NG (ji o) z1.b z1.n z1.cap z1.h ae (ji q) z2.b z2.n z2.cap z2.h) ?_;refine A4 ?_;refine Cd ?_ ?_<;>intro hdQ
    ·have r8:ji (c.map (·.i))≠ji ((ag a b).map (·.1)):=qhv
     refine A8 ?_;refine aO rfl (au rfl) (fun w hL=>⟨(),?_,hL.pk []⟩);exact congrArg (fun e:Int=>Ending.returned (.int .i64 e)) (qqO hk0 hl0 r8)
    ·have r8:ji (c.map (·.i))=ji ((ag a b).map (·.1)):=qhv
     have hc0:=qkI T hPS hk0 r8;refine A3 ?_;refine L9 3 1 ?_;refine Pc (jd m hmz) ?_;refine A4 ?_;refine Cd ?_ ?_<;>intro heQ
     ·have r9:dO m=false:=by cases e:dO m<;>simp[e] at heQ ⊢
      refine A8 ?_;refine aO rfl (au rfl) (fun w hL=>⟨(),?_,hL.pk []⟩);exact congrArg (fun e:Int=>Ending.returned (.int .i64 e)) (qsH hk0 hl0 r8 r9)
     ·have r9:dO m=true:=by cases e:dO m<;>simp[e] at heQ ⊢
      refine A1 ?_;refine Di [] ?_;refine A1 ?_;refine L9 3 1 ?_;refine A2 ?_;refine(Sd [2]) (qO c cb cN cc hcc ae (fun p hp=>⟨Nat.le_trans (hcz p hp).2.1 ae,Nat.le_trans (hcz p hp).2.2 ae⟩) hc0) ?_;refine E5 rfl rfl rfl rfl UE (VG _ _) ?_;refine A3 ?_;refine Cd ?_ ?_<;>intro hfQ
      ·have rx:m≠fH c:=SV
       refine A8 ?_;refine aO rfl (au rfl) (fun w hL=>⟨(),?_,hL.pk []⟩);exact congrArg (fun e:Int=>Ending.returned (.int .i64 e)) (qqP hk0 hl0 r8 r9 rx)
      ·have rx:m=fH c:=SV
       refine A9 ?_;refine aO rfl (au rfl) (fun w hL=>⟨(),?_,hL.pk []⟩);exact congrArg (fun e:Int=>Ending.returned (.int .i64 e)) (qsI hk0 hl0 r8 r9 rx)
end Go.Proofs.YtaffcpfhedadhaaGreatDoor
namespace Go.Via
open Go
def TN(A B:List PU)(m:Rl)(p:lM):List lM:=match zF A B m with
 |some d=>if(decide (aV p.i.f m<0)&&decide (aV m p.i.t<0))=true then[⟨⟨p.i.f,m,p.i.fo,false⟩,p.a,d⟩,⟨⟨m,p.i.t,true,p.i.tp⟩,d,p.b⟩] else[p]
 |none=>[p]
section
variable{A B:List PU}{m d:Rl}{p:lM}{c:List lM}
theorem GU{k:Nat}(hp:c[k]? =some p):bP A B m (c.take (k+1))=bP A B m (c.take k)++TN A B m p:=by
 rw[<-fO hp];show(c.take k++[p]).flatMap (TN A B m)=_;rw[List.flatMap_append,List.flatMap_cons,List.flatMap_nil,List.append_nil];rfl
theorem qkJ(hat:zF A B m=some d)(h1:decide (aV p.i.f m<0)=true)(h2:decide (aV m p.i.t<0)=true):TN A B m p=[⟨⟨p.i.f,m,p.i.fo,false⟩,p.a,(zF A B m).getD (rl 0)⟩,⟨⟨m,p.i.t,true,p.i.tp⟩,(zF A B m).getD (rl 0),p.b⟩]:=by
 unfold TN;rw[hat];dsimp only;rw[h1,h2];rfl
theorem qoM(h:(zF A B m).isSome=false):TN A B m p=[p]:=by
 unfold TN;cases e:zF A B m with
 |none=>rfl
 |some d=>rw[e] at h;cases h
theorem qoN(h1:decide (aV p.i.f m<0)=false):TN A B m p=[p]:=by
 unfold TN;rw[h1];cases zF A B m<;>rfl
theorem qoO(h2:decide (aV m p.i.t<0)=false):TN A B m p=[p]:=by
 unfold TN;rw[h2,Bool.and_false];cases zF A B m<;>rfl
def qa3:0<(TN A B m p).length∧(TN A B m p).length<=2:=by
 unfold TN;cases zF A B m with
 |none=>exact⟨by show 0<1;omega,by show 1<=2;omega⟩
 |some d=>dsimp only;split<;>exact⟨by show 0<_+1;omega,by show _+1<=2;simp⟩
def Oc:∀{c:List lM},(bP A B m c).length<=2*c.length
 |[]=>Nat.le_refl _
 |p::c=>by
  show(TN A B m p++bP A B m c).length<=_;have h1:=(qa3 (A:=A) (B:=B) (m:=m) (p:=p)).2;have h2:=Oc (c:=c);rw[List.length_append,List.length_cons];omega
def qoP:∀{c:List lM},(bP A B m c).length=0->c.length=0
 |[],_=>rfl
 |p::c,h=>by
  have h1:=(qa3 (A:=A) (B:=B) (m:=m) (p:=p)).1;have h2:(TN A B m p++bP A B m c).length=0:=h;rw[List.length_append] at h2;omega
def qa4{q:lM}(h:q∈TN A B m p):q=p∨∃d,zF A B m=some d∧(q=⟨⟨p.i.f,m,p.i.fo,false⟩,p.a,d⟩∨q=⟨⟨m,p.i.t,true,p.i.tp⟩,d,p.b⟩):=by
 unfold TN at h;cases e:zF A B m with
 |none=>rw[e] at h;exact .inl (List.mem_singleton.1 h)
 |some d=>
  rw[e] at h;dsimp only at h
  split at h
  ·rcases List.mem_cons.1 h with h|h
   ·exact .inr ⟨d,rfl,.inl h⟩
   ·exact .inr ⟨d,rfl,.inr (List.mem_singleton.1 h)⟩
  ·exact .inl (List.mem_singleton.1 h)
def Wx{q:lM}(h:q∈bP A B m c):∃p∈c,q∈TN A B m p:=List.mem_flatMap.1 h
def Fl.divz(F:Fl A B)(hz:fV m<=20):∀q∈bP A B m (xg A B),jM q.i<=5000∧fV q.a<=5000∧fV q.b<=5000:=fun q hq=>by
 obtain⟨p,hp,hq⟩:=Wx hq;obtain⟨h1,h2,h3⟩:=F.sz5 p hp;have h4:=jD p.i;have h5:=jE p.i;rcases qa4 hq with rfl|⟨d,hat,rfl|rfl⟩
 ·exact⟨h1,h2,h3⟩
 ·have:=F.atz hz;rw[hat] at this;exact⟨tJ MB MB,h2,Nat.le_trans this ae⟩
 ·have:=F.atz hz;rw[hat] at this;exact⟨tJ MB MB,Nat.le_trans this ae,h3⟩
def Fl.good(F:Fl A B)(hm:m.ok)(h:(xg A B).length≠0):qF A B (bP A B m (xg A B)) (bG (xg A B))=0:=by
 obtain⟨M,e,g,b⟩:=I4 hm F.H.sa F.H.sb F.H.ea F.H.eb (Fl.ne h);rw[<-F.most h,e,qaa hm F.H.sa F.H.sb F.H.ea F.H.eb];exact g
def Fl.bad(F:Fl A B)(hm:m.ok)(h:(xg A B).length≠0):qF A B (bP A B m (xg A B)) ⟨(bG (xg A B)).p+((1:Int):Rat),(bG (xg A B)).r,(bG (xg A B)).n⟩=30:=by
 obtain⟨M,e,g,b⟩:=I4 hm F.H.sa F.H.sb F.H.ea F.H.eb (Fl.ne h);rw[<-F.most h,e,qaa hm F.H.sa F.H.sb F.H.ea F.H.eb];exact b
def Fl.movedz(F:Fl A B){q:Rat}(hq:bY q<=40):fV ⟨(bG (xg A B)).p+q,(bG (xg A B)).r,(bG (xg A B)).n⟩<=5000:=by
 have h:=F.mostz;have h1:=qg (bG (xg A B));have h2:=wX (bG (xg A B));have h3:=iG (bG (xg A B)).p q;exact Nat.max_le.2 ⟨MB,MB⟩
end
end Go.Via
namespace Go.Proofs.YtaffcpfhedadhaaGreatDoor
open Go Go.RowKit Go.Via
def zY:List Value:=[aT,aU,aT,aU,aT,aU,aT,aU,.bool false,aT,aU,aT,aU,aT,aU,aT,aU,.bool false,.bool false,.bool false,aT,aU,aT,aU,aT,aU,aT,aU,.bool false,aT,aU,aT,aU,aT,aU,aT,aU,.bool false]
def qmi{A B:List PU}{m:Rl}(F:Fl A B)(hm:m.ok)(hz:fV m<=20)(ub:Option Nat)(uN uc:Nat)(huc:A.length<=uc)(vb:Option Nat)(vN vc:Nat)(hvc:B.length<=vc)(cb:Option Nat)(cN cc:Nat)(hcc:(bP A B m (xg A B)).length<=cc)(x:Rl)(hx:fV x<=5000){e:Int}(he:qF A B (bP A B m (xg A B)) x=e):
 cZ Tryz.prog 16 [⟨ub,100,aj aP A,uN,false⟩,⟨vb,100,aj aP B,vN,false⟩,⟨cb,63,aj aZ (bP A B m (xg A B)),cN,false⟩] [aA ub 0 A.length uc,aA vb 0 B.length vc,BD (aA cb 0 (bP A B m (xg A B)).length cc) x] Unit (fun _=> .int .i64 e) (fun _=>[]):=by
 subst he;obtain⟨S,ρ,W⟩:=XW hm F.H.sa F.H.sb F.H.ea F.H.eb;have hpf:=ig W.T W.sa W.sb W.ea W.eb;have hps:=zo W.T W.ea W.eb;rw[<-hpf] at hps;refine oV W.T A ub uN uc huc (Nat.le_trans F.la ae) B vb vN vc hvc (Nat.le_trans F.lb ae) F.sa F.sb F.H _ cb cN cc hcc ?_ x (F.divz hz) hx hps fun q hq=>?_
 ·have h1:=Oc (A:=A) (B:=B) (m:=m) (c:=xg A B);have h2:=F.n;omega
 ·obtain⟨p,hp,hq⟩:=Wx hq;obtain⟨z,hzz,rfl⟩:=List.mem_map.1 hp;have hS:=(hps z hzz).1;rcases qa4 hq with rfl|⟨d,hat,rfl|rfl⟩
  ·exact hS
  ·exact⟨hS.1,W.sm⟩
  ·exact⟨W.sm,hS.2⟩
end Go.Proofs.YtaffcpfhedadhaaGreatDoor
namespace Go.Proofs.YtaffcpfhedadhaaGreatDoor
open Go Go.RowKit Go.Via
def Wy:∀x y r,tX x y=some r->aJ Tryz.prog 235 #[RV x,RV y] (Q r):=fun x y r h=>by
 obtain⟨⟨h1,h2,h3,h4,h5,h6,h7,h8,h9⟩,rfl⟩:=YJ h;exact Iw x y h3 h4 (((wV x).1 h1).elim (fun e=>e.1▸Rat.le_refl) (fun e=>Rat.le_of_lt e.1)) h8 h5 h6 h7 h9
def k_W:∀x∈ag kA kB,∀v,tK tX (nG false false true) (ql x.2 ⟨q3*q3,0,0⟩) x.1=some v->cZ Tryz.prog 76 [] [rH (ql x.2 ⟨q3*q3,0,0⟩),nJ x.1,.bool false,.bool false,.bool true] (SR v.length) (fun z=> .tuple #[z.v,.int .i64 0]) (fun z=>[⟨z.b,61,aj bT v,z.n,true⟩])∧v.length<=10:=fun x hx v hv=>by
 rw[qaX,List.mem_cons,List.mem_singleton] at hx;rcases hx with h|h<;>subst h
 ·obtain⟨z1,z2,z3,z4,z5,z6,z7⟩:=qsB;refine⟨xm tX Wy Q1 p1.1 false false true v hv (fun l hl=>(ql8 l hl).1) z3 z4 z5 (xk Q1 (DU Q1 z1 qqI.1 qqI.2)) z7 z6 (fun l hl=>(ql8 l hl).2) (Nat.le_trans z1 ax) z2,?_⟩;have e:=qsD;rw[show tK tX (nG false false true) Q1 p1.1=some v from hv] at e;simp at e;omega
 ·obtain⟨z1,z2,z3,z4,z5,z6,z7⟩:=qsC;refine⟨xm tX Wy Q2 p2.1 false false true v hv (fun l hl=>(ql9 l hl).1) z3 z4 z5 (xk Q2 (DU Q2 z1 qqJ.1 qqJ.2)) z7 z6 (fun l hl=>(ql9 l hl).2) (Nat.le_trans z1 ax) z2,?_⟩;have e:=qsE;rw[show tK tX (nG false false true) Q2 p2.1=some v from hv] at e;simp at e;omega
def DV:aJ Tryz.prog 11 #[] (.bool true):=by
 have hkl:=ql7;have hkl2:((ag kA kB).map ay).length=2:=ql7;have hke:(if((ag kA kB).map ay).length=0 then(36:Int) else 0)=0:=if_neg (by rw[hkl2];decide)
 have hkx:(ji kW).length=1:=(by rw[qhm];rfl);have hk0:=k_0;have hkn:(ji kW)[0]? =some eIv:=(by rw[qhm];rfl);have kgz0:fV (fH kP)<=2:=by rw[qaY];exact qqA ae ae
 have kgz:fV (fH kP)<=50000:=Nat.le_trans kgz0 ae;refine pB0 77 Tryz.func11 fun w=>?_;refine A7 ?_;refine(Sc []) JD (fun z=>?_);obtain⟨⟨ab,aN,ac,hac⟩,⟨bb,bN,bc,hbc⟩⟩:=z;refine qC ?_;refine(Sc [0,1]) (EG kA ab aN ac hac ax kB bb bN bc hbc ax qoK qoL qqE qqF) (fun z=>?_);obtain⟨cb,cN,cc,hcc⟩:=z;refine A3 ?_;refine aS 15 (.int .i64 0) rfl (congrArg (Value.int .i64) hke) ?_;refine Al 10 vV (fun g0=>?_);refine Ss 3 ?_;refine A7 ?_;refine Pc (gu 3 1) ?_;refine aS 18 (Q ((3:Int):Rat)) rfl (congrArg Q (qp 3)) ?_;refine(Sc [0,1]) (BN ng tX kA ab aN ac hac ax kB bb bN bc hbc ax qoK qoL q3 (Nat.le_trans (lh ae ae) ae) kW qqC k_W qsy qsz qsA ax) (fun z=>?_);obtain⟨xb,xN,xc,hxc⟩:=z;refine A4 ?_;refine Di [] ?_ (hc:=(oL (0::1::3::7::15::31::63::127::255::511::1023::511::4095::8191::16383::32767::65535::131071::262143::32767::557055::557055::2654207::7897087::16777215::33554431::67108863::134217727::134217727::134217727::1073741823::2147483647::4294967295::8589934591::17179869183::17179869183::68719476735::137438953471::274877906943::549755813887::549755813887::2199023255551::4398046511103::8796093022207::17592186044415::35184372088831::70368744177663::140737488355327::281474976710655::562949953421311::1125899906842623::2251799813685247::4503599627370495::1125899906842623::10133099161583615::36028797018963967::72057594037927935::144115188075855871::[]) ak));refine A2 ?_;refine aS 21 (.bool true) rfl (congrArg Value.bool ax) ?_;refine A5 ?_;refine aS 26 (.bool true) rfl (congrArg Value.bool (decide_eq_true ae)) ?_;refine A3 ?_;refine L9 3 1 ?_;refine Kr 30 (RV (fH kP)) ?_;refine Pc (iF 13) ?_;refine fP rfl rfl rfl rfl UE (VG _ _) ?_;refine aS 32 (.bool true) rfl (congrArg Value.bool (decide_eq_true qaY)) ?_;refine A4 ?_;refine aG 2 ((0)*38) u32 Hl rfl rfl rfl rfl rfl ae ae (dH.ne ax ae) EE ?_;refine bu (v:=wU eP1) 2 ((0)*38) _ rfl rfl rfl rfl Hl (dH.sub hk0 0 38 ax) rfl ax rfl ?_;refine Pc (iF 2) ?_;refine(Bu [(1,_)]) (QU) ?_;refine aS 40 (nJ ⟨rl 0,rz 2,false,false⟩) rfl (qaT _ _ _).symm ?_;refine Pc (iF 9) ?_;refine Pc (iF 13) ?_;refine(Bu [(0,_),(1,_),(2,_)]) (WV) ?_;refine Kr 43 (wU eP1) ?_;refine fP rfl rfl rfl rfl qm0 (qnM _ _) ?_;refine aS 44 (.bool true) rfl (congrArg Value.bool (decide_eq_true rfl)) ?_;refine A4 ?_;refine XM 3 0 ?_;refine(Sd [0,1,2]) (oV ng kA ab aN ac hac ax kB bb bN bc hbc ax qoK qoL qqG kP cb cN cc hcc ae (fH kP) qsw ae qqH qsx) ?_;refine aS 50 (.int .i64 0) rfl (congrArg (Value.int .i64) qqD) ?_;refine A1 ?_;refine aS 51 (.bool true) rfl (congrArg Value.bool ax) ?_;refine A2 ?_;refine XM 3 0 ?_;refine Pc (gu 4 1) ?_;refine aS 55 (Q ((4:Int):Rat)) rfl (congrArg Q (qp 4)) ?_;refine Pc (vU cb kP.length cc (fH kP) ((4:Int):Rat) kgz (Nat.le_trans (lh ae ae) ae)) ?_;refine aS 56 (.bool true) rfl (congrArg Value.bool (qsu)) ?_;refine A2 ?_;refine XM 3 0 ?_;refine Pc (gu 3 1) ?_;refine aS 60 (Q ((3:Int):Rat)) rfl (congrArg Q (qp 3)) ?_;refine Pc (vU cb kP.length cc (fH kP) ((3:Int):Rat) kgz (Nat.le_trans (lh ae ae) ae)) ?_;refine aS 61 (.bool false) rfl (congrArg Value.bool qsv) ?_;refine A6 ?_;refine aS 67 (.bool true) rfl (congrArg Value.bool (decide_eq_true ae)) ?_;refine A3 ?_;refine aG 4 ((0)*20) TG pz rfl rfl rfl rfl rfl ae ae (cO.ne ax ae) zx ?_;refine bu (v:=nJ eIv) 4 ((0)*20) _ rfl rfl rfl rfl pz (cO.sub hkn 0 20 ax) rfl ax rfl ?_;refine Pc (iF 4) ?_;refine(Bu [(1,_),(2,_),(3,_)]) (UC) ?_;refine aS 74 (nJ eIv) rfl (qaT _ _ _).symm ?_;refine fP rfl rfl rfl rfl qpy (qp3 _ _) ?_;refine aS 75 (.bool true) rfl (congrArg Value.bool (decide_eq_true rfl)) ?_;refine A5 ?_;refine E0 ?_;exact rfl
end Go.Proofs.YtaffcpfhedadhaaGreatDoor
