/-
  Part 47 (chapter 32): lemmas, walks. Each theorem states its own conditions.
-/
import Derived.Shelf.SlSortCmp.WholeK
import Derived.Shelf.SlSortCmp.NoneTotal
import Derived.Lib.Repeat
import Derived.Sort.Grow
import Derived.Sort.EncStr
import Derived.Lib.SliceRun
import Derived.Test.YtaffcpfhedadhaaGreatDoorA41
import Derived.Test.YtaffcpfhedadhaaGreatDoorA45
import Derived.Test.YtaffcpfhedadhaaGreatDoorA46
set_option linter.all false
set_option maxRecDepth 20000
set_option maxHeartbeats 20000000
section
variable{P Q:Prop}{T:Type}{R:T->Prop}
def pq(q:Q)(h:bI Q->P:=by intro q_;refine L9 3 1 ?_;refine aS 107 (RV (bG ((ag A B).map ay))) rfl rfl ?_;refine A1 ?_;refine Nt 3 ?_;refine(Bu [(0,_),(1,_)]) (qdS) ?_;refine A1 ?_;exact q_.qq):=h ⟨q⟩
def Jd(q:Q)(h:bI Q->P:=by intro q_;refine Pc (OH (bG ((ag A B).map ay)) ((1:Int):Rat) (Nat.le_trans F.mostz ae) (Nat.le_trans (lh ae ae) ae)) ?_;refine A1 ?_;refine Nt 9 ?_;refine(Bu [(0,_),(1,_)]) (qdS) ?_;refine A1 ?_;exact q_.qq):=h ⟨q⟩
def uf(q:Q)(h:bI Q->P:=by intro q_;refine Pc (gu 1 1) ?_;refine aS 112 (Q ((1:Int):Rat)) rfl (congrArg Q (qp 1)) ?_;refine A1 ?_;exact q_.qq):=h ⟨q⟩
def ug(q:Q)(h:bI Q->P:=by intro q_;refine L9 3 1 ?_;refine aS 111 (RV (bG ((ag A B).map ay))) rfl rfl ?_;refine A1 ?_;exact q_.qq):=h ⟨q⟩
def TF(h:P:=by show((ag A B).map ay).length-(k+1)<((ag A B).map ay).length-k;omega):=h
end
namespace Go.Proofs.YtaffcpfhedadhaaGreatDoor
open Go Go.RowKit Go.Via
def qhw{ta xa ya tb xb yb ch:Nat}{a b:List sW}{A B:List PU}(hA:jA ta xa ya a=A)(hB:uu ta xa ya a tb xb yb b ch=B)(hta:ta<256)(hxa:xa<256)(hya:ya<256)(htb:tb<256)(hxb:xb<256)(hyb:yb<256)(hch:ch<256)
 {ab:Option Nat}{pa:List Value}(aN ac:Nat)(hac:a.length<=ac)(ha6:a.length<=6)(has:∀s∈a,okS s){bb:Option Nat}{pb:List Value}(bN bc:Nat)(hbc:b.length<=bc)(hb6:b.length<=6)(hbs:∀s∈b,okS s):
 cZ Tryz.prog 13 [⟨ab,86,pa++aj kE a,aN,false⟩,⟨bb,86,pb++aj kE b,bN,false⟩] [.agg #[.int .u8 (ta:Nat),.int .u8 (xa:Nat),.int .u8 (ya:Nat),aA ab pa.length a.length ac,.int .u8 (tb:Nat),.int .u8 (xb:Nat),.int .u8 (yb:Nat),aA bb pb.length b.length bc,.int .u8 (ch:Nat)]] (SR A.length×SR B.length) (fun z=> .tuple #[z.1.v,z.2.v]) (fun z=>[⟨z.1.b,100,aj aP A,z.1.n,true⟩,⟨z.2.b,100,aj aP B,z.2.n,true⟩]):=by
 subst hA;subst hB;exact Og ta xa ya tb xb yb ch hta hxa hya htb hxb hyb hch a ab pa aN ac hac ha6 has b bb pb bN bc hbc hb6 hbs
section
variable{A B:List PU}
def qsJ(F:Fl A B)(ub:Option Nat)(uN uc:Nat)(huc:A.length<=uc)(vb:Option Nat)(vN vc:Nat)(hvc:B.length<=vc)(c:List lM)(cb:Option Nat)(cN cc:Nat)(hcc:c.length<=cc)(hn:c.length<=42)(m:Rl)(hsz:∀p∈c,jM p.i<=5000∧fV p.a<=5000∧fV p.b<=5000)(hm:fV m<=5000)(hS:∀p∈c,gq p.i.f∧gq p.i.t){e:Int}(he:qF A B c m=e):
 cZ Tryz.prog 16 [⟨ub,100,aj aP A,uN,false⟩,⟨vb,100,aj aP B,vN,false⟩,⟨cb,63,aj aZ c,cN,false⟩] [aA ub 0 A.length uc,aA vb 0 B.length vc,BD (aA cb 0 c.length cc) m] Unit (fun _=> .int .i64 e) (fun _=>[]):=by
 subst he;exact oV ng A ub uN uc huc (Nat.le_trans F.la ae) B vb vN vc hvc (Nat.le_trans F.lb ae) F.sa F.sb F.H c cb cN cc hcc ae m hsz hm F.PS hS
end
end Go.Proofs.YtaffcpfhedadhaaGreatDoor
namespace Go.Proofs.YtaffcpfhedadhaaGreatDoor
open Go Go.RowKit Go.Via
def Dk(ta xa ya tb xb yb ch:Nat)(hta:ta<256)(hxa:xa<256)(hya:ya<256)(htb:tb<256)(hxb:xb<256)(hyb:yb<256)(hch:ch<256)(a:List sW)(ab:Option Nat)(pa:List Value)(aN ac:Nat)(hac:a.length<=ac)(has:∀s∈a,okS s)(b:List sW)(bb:Option Nat)(pb:List Value)(bN bc:Nat)(hbc:b.length<=bc)(hbs:∀s∈b,okS s)(ia ib ic id:Nat)(s:Bool)(hia:ia<256:=by omega)(hib:ib<256:=by omega)(hic:ic<256:=by omega)(hid:id<256:=by omega):cZ Tryz.prog 6 [⟨ab,86,pa++aj kE a,aN,false⟩,⟨bb,86,pb++aj kE b,bN,false⟩] [.agg #[.int .u8 (ta:Nat),.int .u8 (xa:Nat),.int .u8 (ya:Nat),aA ab pa.length a.length ac,.int .u8 (tb:Nat),.int .u8 (xb:Nat),.int .u8 (yb:Nat),aA bb pb.length b.length bc,.int .u8 (ch:Nat)],.agg #[.int .u8 (ia:Nat),.int .u8 (ib:Nat),.int .u8 (ic:Nat),.int .u8 (id:Nat),.bool s]] Unit (fun _=> .bool true) (fun _=>[]):=by
 refine Z5 127 Tryz.func6 fun w hL0=>?_;refine nC fun g0=>?_;refine Bp 5 (fun g1=>?_);refine A6 ?_;refine Pc (DV) ?_;refine A1 ?_;refine Kr 19 (.bool false) ?_;refine A1 ?_;refine L9 2 0 ?_;refine Pc (OL ta xa ya tb xb yb ch a b ab bb pa pb ac bc) ?_;refine A4 ?_;refine Cd ?_ ?_<;>intro haQ
 ·refine A2 ?_;refine Pc (DV) ?_;refine A5 ?_;refine aO rfl (au rfl) (fun w hL=>⟨(),?_,hL.pk []⟩);exact rfl
 ·have hf6:=haQ;obtain⟨ha6,hb6⟩:a.length<=6∧b.length<=6:=by simpa using hf6
  obtain⟨A,hA⟩:∃A,jA ta xa ya a=A:=⟨_,rfl⟩;obtain⟨B,hB⟩:∃B,uu ta xa ya a tb xb yb b ch=B:=⟨_,rfl⟩;have F:Fl A B:=by rw[<-hA,<-hB];exact qoC ha6 hb6
  have hn42:((ag A B).map ay).length<=42:=F.n;refine A4 ?_;refine L9 2 0 ?_;refine(Sc [0,1]) (qhw hA hB hta hxa hya htb hxb hyb hch aN ac hac ha6 has bN bc hbc hb6 hbs) (fun z=>?_);obtain⟨⟨ub,uN,uc,huc⟩,⟨vb,vN,vc,hvc⟩⟩:=z;refine A8 ?_;refine Dq [3000000] [0,1,3,2,4,5,6,7,8] ?_;refine A2 ?_;refine Ld 3 0 [_,_,_,_,_] qps ?_;refine(Sc [4,5]) (OM A ub uN uc huc (Nat.le_trans F.la ae) B vb vN vc hvc (Nat.le_trans F.lb ae) F.sa F.sb F.H) (fun z=>?_);obtain⟨wb,wN,wc,hwc⟩:=z;refine Pc (Tj ia ib ic id s hia hib hic hid) ?_;refine Al 10 vV (fun g2=>?_);refine Al 9 II (fun g3=>?_);refine Ss 7 ?_;refine Ss 8 ?_;refine EK ?_;refine El (ι:={z:Nat×List lM×Option Nat×Nat×Nat // z.1<=((ag A B).map ay).length∧z.2.1=bP A B (bn ia ib ic id s) (((ag A B).map ay).take z.1)∧z.2.1.length<=z.2.2.2.2∧z.2.2.2.2*38<=z.2.2.2.1}) (fun⟨⟨k,o,ob,oN,oc⟩,hk,hI,h3,h4⟩=>([(5,aA ub 0 A.length uc),(6,aA vb 0 B.length vc),(7,bf g2),(8,bf g3),(9,aA ob 0 o.length oc),(10,bH k)],[⟨ub,100,aj aP A,uN,true⟩,⟨vb,100,aj aP B,vN,true⟩,⟨wb,63,aj aZ ((ag A B).map ay),wN,true⟩,⟨some g2,40,iE (aA wb 0 ((ag A B).map ay).length wc) (bG ((ag A B).map ay)),10,true⟩,⟨some g3,38,jX (bn ia ib ic id s),9,true⟩,⟨ob,63,aj aZ o,oN,true⟩],((ag A B).map ay).length-k)) ⟨⟨0,[],none,0,0⟩,Nat.zero_le _,rfl,Nat.le_refl _,bz⟩ ?_ (hL:=(az [some 4,some 5,some 6,some 7,some 8,none] ⟨pR,pR,pR,pR,pR,⟨rfl,rfl,rfl⟩,trivial⟩ rfl rfl));rintro⟨⟨k,o,ob,oN,oc⟩,hk,hI,h3,h4⟩;(try dsimp only);replace hk:k<=((ag A B).map ay).length:=hk;replace hI:o=bP A B (bn ia ib ic id s) (((ag A B).map ay).take k):=hI;replace h3:o.length<=oc:=h3;replace h4:oc*38<=oN:=h4
  have hol:o.length<=84:=(by rw[hI];have e:=Oc (A:=A) (B:=B) (m:=(bn ia ib ic id s)) (c:=((ag A B).map ay).take k);rw[List.length_take] at e;omega);refine lW ?_;refine Cd ?_ ?_<;>intro hbQ
  ·have hlt:k<((ag A B).map ay).length:=lu;obtain⟨p,hp⟩:∃p,((ag A B).map ay)[k]? =some p:=⟨((ag A B).map ay)[k],List.getElem?_eq_getElem hlt⟩;obtain⟨hz1,hz2,hz3⟩:=F.sz p (List.mem_of_getElem? hp);have hz4:=jD p.i;have hz5:=jE p.i;have hmz:=JZ ia ib ic id s;refine dQ 2 rfl (dH.ne ax ae) (fun hbs=>?_);obtain⟨gw,hgw⟩:=Option.isSome_iff_exists.1 hbs;replace hgw:wb=some gw:=hgw;subst hgw;refine A9 ?_;refine aG 2 ((k)*38) u32 Hl rfl rfl rfl rfl rfl ae ae (dH.ne ax ae) EE ?_;refine bu (v:=wU p) 2 ((k)*38) _ rfl rfl rfl rfl Hl (dH.sub hp 0 38 ax) rfl ax rfl ?_;refine Kr 47 (wU p) ?_;refine Al 38 Ou (fun g4=>?_);refine Ss 6 ?_;refine A6 ?_;refine L9 4 0 ?_;refine Kr 51 (RV (bn ia ib ic id s)) ?_;refine(Sd [0,1]) (Yt A ub uN uc huc (Nat.le_trans F.la ae) B vb vN vc hvc (Nat.le_trans F.lb ae) F.sa F.sb (bn ia ib ic id s) (Gw ..) (Nat.le_trans (JZ ..) ae)) ?_;refine A3 ?_;refine Al 9 II (fun g5=>?_);refine Ss 7 ?_;refine A7 ?_;refine Rs 56 ?_ ?_<;>intro hcQ
   ·obtain⟨dd,hat⟩:∃dd,zF A B (bn ia ib ic id s)=some dd:=by cases e:zF A B (bn ia ib ic id s) with|none=>(rw[e] at hcQ;exact absurd hcQ ax)|some dd=>exact⟨dd,rfl⟩
    refine A2 ?_;refine L9 6 0 ?_;refine Kr 59 (RV p.i.f) ?_;refine L9 4 0 ?_;refine Kr 60 (RV (bn ia ib ic id s)) ?_;refine Pc (eU p.i.f (bn ia ib ic id s)) ?_;refine A3 ?_;refine Rs 64 ?_ ?_<;>intro hdQ
    ·have h1:decide (aV p.i.f (bn ia ib ic id s)<0)=true:=hdQ;refine L9 4 0 ?_;refine Kr 65 (RV (bn ia ib ic id s)) ?_;refine A2 ?_;refine L9 6 9 ?_;refine Kr 68 (RV p.i.t) ?_;refine Pc (eU (bn ia ib ic id s) p.i.t) ?_;refine A4 ?_;refine Cd ?_ ?_<;>intro heQ
     ·have h2:decide (aV (bn ia ib ic id s) p.i.t<0)=true:=heQ;refine A1 ?_;let sX:List (Nat×Value)->List (Nat×Value):=fun l=>(5,aA ub 0 A.length uc)::(6,aA vb 0 B.length vc)::(7,bf g2)::(8,bf g3)::(9,aA ob 0 o.length oc)::(10,bH k)::(11,bf g4)::(12,bf g5)::l;let sY:List aH->List aH:=fun l=>⟨ub,100,aj aP A,uN,true⟩::⟨vb,100,aj aP B,vN,true⟩::⟨some gw,63,aj aZ ((ag A B).map ay),wN,true⟩::⟨some g2,40,iE (aA (some gw) 0 ((ag A B).map ay).length wc) (bG ((ag A B).map ay)),10,true⟩::⟨some g3,38,jX (bn ia ib ic id s),9,true⟩::⟨ob,63,aj aZ o,oN,true⟩::⟨some g4,63,aZ p,38,true⟩::⟨some g5,38,jX ((zF A B (bn ia ib ic id s)).getD (rl 0)),9,true⟩::l;refine uy (nt:=127) (Z:=Nat×Nat) (fun⟨g14,g15⟩=>sX [(14,bf g14),(15,bf g15)]) (fun⟨g14,g15⟩=>sY [⟨some g14,63,aZ p,38,true⟩,⟨some g15,63,aZ p,38,true⟩]) 6 [0,1,2,3,4,5] mixed ak (fun hd0=>?_) ?_
      ·refine aC (nt:=127) (Z:=Nat×Nat) (fun⟨g14,g15⟩=>sX [(73,wU p),(14,bf g14),(15,bf g15)]) (fun⟨g14,g15⟩=>sY [⟨some g14,63,aZ p,38,true⟩,⟨some g15,63,zY,38,true⟩]) 1 [5] (fun z=>?_) (fun hd1=>?_)
       ·obtain⟨g14,g15⟩:=z;(try dsimp only);refine x9 5 ?_
        ·refine Ss 9 ?_;refine A1 ?_;exact Nw hd0 ⟨g14,g15⟩ [0,1,2,3,4,5,6,7,8,9]
       refine aC (nt:=127) (Z:=Nat×Nat) (fun⟨g14,g15⟩=>sX [(14,bf g14),(15,bf g15)]) (fun⟨g14,g15⟩=>sY [⟨some g14,63,aZ p,38,true⟩,⟨some g15,63,zY,38,true⟩]) 2 [1,5] (fun z=>?_) (fun hd2=>?_)
       ·obtain⟨g14,g15⟩:=z;(try dsimp only);refine x9 1 ?_
        ·refine Bg 6 0 ?_;refine A1 ?_;exact Nw hd1 ⟨g14,g15⟩ [0,1,2,3,4,5,6,7,8,9]
       refine aC (nt:=127) (Z:=Nat×Nat) (fun⟨g14,g15⟩=>sX [(72,wU p),(73,wU p),(14,bf g14),(15,bf g15)]) (fun⟨g14,g15⟩=>sY [⟨some g14,63,zY,38,true⟩,⟨some g15,63,zY,38,true⟩]) 2 [4,5] (fun z=>?_) (fun hd3=>?_)
       ·obtain⟨g14,g15⟩:=z;(try dsimp only);refine x9 4 ?_
        ·refine Ss 8 ?_;refine A1 ?_;exact Nw hd1 ⟨g14,g15⟩ [0,1,2,3,4,5,6,7,8,9]
       refine aC (nt:=127) (Z:=Nat×Nat) (fun⟨g14,g15⟩=>sX [(73,wU p),(14,bf g14),(15,bf g15)]) (fun⟨g14,g15⟩=>sY [⟨some g14,63,zY,38,true⟩,⟨some g15,63,zY,38,true⟩]) 3 [0,4,5] (fun z=>?_) (fun hd4=>?_)
       ·obtain⟨g14,g15⟩:=z;(try dsimp only);refine x9 0 ?_
        ·refine Bg 6 0 ?_;refine A1 ?_;exact Nw hd3 ⟨g14,g15⟩ [0,1,2,3,4,5,6,7,8,9]
       refine aC (nt:=127) (Z:=Nat×Nat) (fun⟨g14,g15⟩=>sX [(72,wU p),(14,bf g14),(15,bf g15)]) (fun⟨g14,g15⟩=>sY [⟨some g14,63,zY,38,true⟩,⟨some g15,63,zY,38,true⟩]) 3 [1,4,5] (fun z=>?_) (fun hd5=>?_)
       ·obtain⟨g14,g15⟩:=z;(try dsimp only);refine aI [1,4] ak rfl ⟨⟨_,rfl,?_⟩,⟨_,rfl,?_⟩,trivial⟩
        ·refine Bg 6 0 ?_;refine A1 ?_;exact Nw hd3 ⟨g14,g15⟩ [0,1,2,3,4,5,6,7,8,9]
        ·refine Ss 8 ?_;refine A1 ?_;exact Nw hd2 ⟨g14,g15⟩ [0,1,2,3,4,5,6,7,8,9]
       refine aC (nt:=127) (Z:=Nat) (fun g15=>sX [(72,wU p),(73,wU p),(15,bf g15)]) (fun g15=>sY [⟨some g15,63,zY,38,true⟩]) 3 [2,4,5] (fun g15=>?_) (fun hd6=>?_)
       ·(try dsimp only);refine x9 2 ?_
        ·refine Al 38 Ou (fun g7=>?_);refine A1 ?_;exact Nw hd3 ⟨g7,g15⟩ [0,1,2,3,4,5,6,7,9,8]
       refine aC (nt:=127) (Z:=Nat) (fun g14=>sX [(72,wU p),(73,wU p),(14,bf g14)]) (fun g14=>sY [⟨some g14,63,zY,38,true⟩]) 3 [3,4,5] (fun g14=>?_) (fun hd7=>?_)
       ·(try dsimp only);refine x9 3 ?_
        ·refine Al 38 Ou (fun g7=>?_);refine A1 ?_;exact Nw hd3 ⟨g14,g7⟩ [0,1,2,3,4,5,6,7,8,9]
       refine aC (nt:=127) (Z:=Nat×Nat) (fun⟨g14,g15⟩=>sX [(14,bf g14),(15,bf g15)]) (fun⟨g14,g15⟩=>sY [⟨some g14,63,zY,38,true⟩,⟨some g15,63,zY,38,true⟩]) 4 [0,1,4,5] (fun z=>?_) (fun hd8=>?_)
       ·obtain⟨g14,g15⟩:=z;(try dsimp only);refine aI [0,1] ak rfl ⟨⟨_,rfl,?_⟩,⟨_,rfl,?_⟩,trivial⟩
        ·refine Bg 6 0 ?_;refine A1 ?_;exact Nw hd5 ⟨g14,g15⟩ [0,1,2,3,4,5,6,7,8,9]
        ·refine Bg 6 0 ?_;refine A1 ?_;exact Nw hd4 ⟨g14,g15⟩ [0,1,2,3,4,5,6,7,8,9]
       refine aC (nt:=127) (Z:=Nat) (fun g15=>sX [(73,wU p),(15,bf g15)]) (fun g15=>sY [⟨some g15,63,zY,38,true⟩]) 4 [0,2,4,5] (fun g15=>?_) (fun hd9=>?_)
       ·(try dsimp only);refine aI [0,2] ak rfl ⟨⟨_,rfl,?_⟩,⟨_,rfl,?_⟩,trivial⟩
        ·refine Bg 6 0 ?_;refine A1 ?_;exact Nw hd6 g15 [0,1,2,3,4,5,6,7,8]
        ·refine Al 38 Ou (fun g7=>?_);refine A1 ?_;exact Nw hd4 ⟨g7,g15⟩ [0,1,2,3,4,5,6,7,9,8]
       refine aC (nt:=127) (Z:=Nat) (fun g14=>sX [(73,wU p),(14,bf g14)]) (fun g14=>sY [⟨some g14,63,zY,38,true⟩]) 4 [0,3,4,5] (fun g14=>?_) (fun hd10=>?_)
       ·(try dsimp only);refine aI [0,3] ak rfl ⟨⟨_,rfl,?_⟩,⟨_,rfl,?_⟩,trivial⟩
        ·refine Bg 6 0 ?_;refine A1 ?_;exact Nw hd7 g14 [0,1,2,3,4,5,6,7,8]
        ·refine Al 38 Ou (fun g7=>?_);refine A1 ?_;exact Nw hd4 ⟨g14,g7⟩ [0,1,2,3,4,5,6,7,8,9]
       refine aC (nt:=127) (Z:=Nat) (fun g15=>sX [(72,wU p),(15,bf g15)]) (fun g15=>sY [⟨some g15,63,zY,38,true⟩]) 4 [1,2,4,5] (fun g15=>?_) (fun hd11=>?_)
       ·(try dsimp only);refine aI [1,2] ak rfl ⟨⟨_,rfl,?_⟩,⟨_,rfl,?_⟩,trivial⟩
        ·refine Bg 6 0 ?_;refine A1 ?_;exact Nw hd6 g15 [0,1,2,3,4,5,6,7,8]
        ·refine Al 38 Ou (fun g7=>?_);refine A1 ?_;exact Nw hd5 ⟨g7,g15⟩ [0,1,2,3,4,5,6,7,9,8]
       refine aC (nt:=127) (Z:=Nat) (fun g14=>sX [(72,wU p),(14,bf g14)]) (fun g14=>sY [⟨some g14,63,zY,38,true⟩]) 4 [1,3,4,5] (fun g14=>?_) (fun hd12=>?_)
       ·(try dsimp only);refine aI [1,3] ak rfl ⟨⟨_,rfl,?_⟩,⟨_,rfl,?_⟩,trivial⟩
        ·refine Bg 6 0 ?_;refine A1 ?_;exact Nw hd7 g14 [0,1,2,3,4,5,6,7,8]
        ·refine Al 38 Ou (fun g7=>?_);refine A1 ?_;exact Nw hd5 ⟨g14,g7⟩ [0,1,2,3,4,5,6,7,8,9]
       refine aC (nt:=127) (Z:=Unit) (fun _=>sX [(72,wU p),(73,wU p)]) (fun _=>sY []) 4 [2,3,4,5] (fun z=>?_) (fun hd13=>?_)
       ·(try dsimp only);refine aI [2,3] ak rfl ⟨⟨_,rfl,?_⟩,⟨_,rfl,?_⟩,trivial⟩
        ·refine Al 38 Ou (fun g6=>?_);refine A1 ?_;exact Nw hd7 g6 [0,1,2,3,4,5,6,7,8]
        ·refine Al 38 Ou (fun g6=>?_);refine A1 ?_;exact Nw hd6 g6 [0,1,2,3,4,5,6,7,8]
       refine aC (nt:=127) (Z:=Nat) (fun g15=>sX [(15,bf g15)]) (fun g15=>sY [⟨some g15,63,zY,38,true⟩]) 5 [0,1,2,4,5] (fun g15=>?_) (fun hd14=>?_)
       ·(try dsimp only);refine aI [0,1,2] ak rfl ⟨⟨_,rfl,?_⟩,⟨_,rfl,?_⟩,⟨_,rfl,?_⟩,trivial⟩
        ·refine Bg 6 0 ?_;refine A1 ?_;exact Nw hd11 g15 [0,1,2,3,4,5,6,7,8]
        ·refine Bg 6 0 ?_;refine A1 ?_;exact Nw hd9 g15 [0,1,2,3,4,5,6,7,8]
        ·refine Al 38 Ou (fun g7=>?_);refine A1 ?_;exact Nw hd8 ⟨g7,g15⟩ [0,1,2,3,4,5,6,7,9,8]
       refine aC (nt:=127) (Z:=Nat) (fun g14=>sX [(14,bf g14)]) (fun g14=>sY [⟨some g14,63,zY,38,true⟩]) 5 [0,1,3,4,5] (fun g14=>?_) (fun hd15=>?_)
       ·(try dsimp only);refine aI [0,1,3] ak rfl ⟨⟨_,rfl,?_⟩,⟨_,rfl,?_⟩,⟨_,rfl,?_⟩,trivial⟩
        ·refine Bg 6 0 ?_;refine A1 ?_;exact Nw hd12 g14 [0,1,2,3,4,5,6,7,8]
        ·refine Bg 6 0 ?_;refine A1 ?_;exact Nw hd10 g14 [0,1,2,3,4,5,6,7,8]
        ·refine Al 38 Ou (fun g7=>?_);refine A1 ?_;exact Nw hd8 ⟨g14,g7⟩ [0,1,2,3,4,5,6,7,8,9]
       refine aC (nt:=127) (Z:=Unit) (fun _=>sX [(73,wU p)]) (fun _=>sY []) 5 [0,2,3,4,5] (fun z=>?_) (fun hd16=>?_)
       ·(try dsimp only);refine aI [0,2,3] ak rfl ⟨⟨_,rfl,?_⟩,⟨_,rfl,?_⟩,⟨_,rfl,?_⟩,trivial⟩
        ·refine Bg 6 0 ?_;refine A1 ?_;exact Nw hd13 () [0,1,2,3,4,5,6,7]
        ·refine Al 38 Ou (fun g6=>?_);refine A1 ?_;exact Nw hd10 g6 [0,1,2,3,4,5,6,7,8]
        ·refine Al 38 Ou (fun g6=>?_);refine A1 ?_;exact Nw hd9 g6 [0,1,2,3,4,5,6,7,8]
       refine aC (nt:=127) (Z:=Unit) (fun _=>sX [(72,wU p)]) (fun _=>sY []) 5 [1,2,3,4,5] (fun z=>?_) (fun hd17=>?_)
       ·(try dsimp only);refine aI [1,2,3] ak rfl ⟨⟨_,rfl,?_⟩,⟨_,rfl,?_⟩,⟨_,rfl,?_⟩,trivial⟩
        ·refine Bg 6 0 ?_;refine A1 ?_;exact Nw hd13 () [0,1,2,3,4,5,6,7]
        ·refine Al 38 Ou (fun g6=>?_);refine A1 ?_;exact Nw hd12 g6 [0,1,2,3,4,5,6,7,8]
        ·refine Al 38 Ou (fun g6=>?_);refine A1 ?_;exact Nw hd11 g6 [0,1,2,3,4,5,6,7,8]
       refine aI [0,1,2,3] ak rfl ⟨⟨_,rfl,?_⟩,⟨_,rfl,?_⟩,⟨_,rfl,?_⟩,⟨_,rfl,?_⟩,trivial⟩
       ·refine Bg 6 0 ?_;refine A1 ?_;exact Nw hd17 () [0,1,2,3,4,5,6,7]
       ·refine Bg 6 0 ?_;refine A1 ?_;exact Nw hd16 () [0,1,2,3,4,5,6,7]
       ·refine Al 38 Ou (fun g6=>?_);refine A1 ?_;exact Nw hd15 g6 [0,1,2,3,4,5,6,7,8]
       ·refine Al 38 Ou (fun g6=>?_);refine A1 ?_;exact Nw hd14 g6 [0,1,2,3,4,5,6,7,8]
      rintro⟨g14,g15⟩;show At _ ⟨127,[(5,aA ub 0 A.length uc),(6,aA vb 0 B.length vc),(7,bf g2),(8,bf g3),(9,aA ob 0 o.length oc),(10,bH k),(11,bf g4),(12,bf g5),(14,bf g14),(15,bf g15)],[⟨ub,100,aj aP A,uN,true⟩,⟨vb,100,aj aP B,vN,true⟩,⟨some gw,63,aj aZ ((ag A B).map ay),wN,true⟩,⟨some g2,40,iE (aA (some gw) 0 ((ag A B).map ay).length wc) (bG ((ag A B).map ay)),10,true⟩,⟨some g3,38,jX (bn ia ib ic id s),9,true⟩,⟨ob,63,aj aZ o,oN,true⟩,⟨some g4,63,aZ p,38,true⟩,⟨some g5,38,jX ((zF A B (bn ia ib ic id s)).getD (rl 0)),9,true⟩,⟨some g14,63,aZ p,38,true⟩,⟨some g15,63,aZ p,38,true⟩]⟩ _;refine A2 ?_;refine Di [8] ?_;refine L9 4 0 ?_;refine L9 7 0 ?_;refine Fg 0 0 ?_;refine Fg 0 9 ?_;refine jS 8 9 [_,_,_,_,_,_,_,_,⟨some g14,63,_,38,true⟩,_] [_,_,_,_,_,_,_,_,_,_,_,_,_,_,_,_,_,_,_,_,_,_,_,_,_,_,_,_,_,_,_,_,_,_,_,_,_,_] rfl rfl rfl rfl ja rfl rfl rfl rfl rfl rfl ?_;refine Fg 0 0 ?_;refine Fg 0 19 ?_;refine jS 8 19 [_,_,_,_,_,_,_,_,⟨some g14,63,_,38,true⟩,_] [_,_,_,_,_,_,_,_,_,_,_,_,_,_,_,_,_,_,_,_,_,_,_,_,_,_,_,_,_,_,_,_,_,_,_,_,_,_] rfl rfl rfl rfl ti4 rfl rfl rfl rfl rfl rfl ?_;refine Fg 0 29 ?_;refine jS 8 29 [_,_,_,_,_,_,_,_,⟨some g14,63,_,38,true⟩,_] [_,_,_,_,_,_,_,_,_,_,_,_,_,_,_,_,_,_,_,_,_,_,_,_,_,_,_,_,_,_,_,_,_,_,_,_,_,_] rfl rfl rfl rfl ja rfl rfl rfl rfl rfl rfl ?_;refine A3 ?_;refine Di [9] ?_;refine L9 4 0 ?_;refine L9 7 0 ?_;refine Fg 0 0 ?_;refine Fg 0 0 ?_;refine jS 9 0 [_,_,_,_,_,_,_,_,_,⟨some g15,63,_,38,true⟩] [_,_,_,_,_,_,_,_,_,_,_,_,_,_,_,_,_,_,_,_,_,_,_,_,_,_,_,_,_,_,_,_,_,_,_,_,_,_] rfl rfl rfl rfl ja rfl rfl rfl rfl rfl rfl ?_;refine Fg 0 0 ?_;refine Fg 0 18 ?_;refine jS 9 18 [_,_,_,_,_,_,_,_,_,⟨some g15,63,_,38,true⟩] [_,_,_,_,_,_,_,_,_,_,_,_,_,_,_,_,_,_,_,_,_,_,_,_,_,_,_,_,_,_,_,_,_,_,_,_,_,_] rfl rfl rfl rfl ti4 rfl rfl rfl rfl rfl rfl ?_;refine Fg 0 20 ?_;refine jS 9 20 [_,_,_,_,_,_,_,_,_,⟨some g15,63,_,38,true⟩] [_,_,_,_,_,_,_,_,_,_,_,_,_,_,_,_,_,_,_,_,_,_,_,_,_,_,_,_,_,_,_,_,_,_,_,_,_,_] rfl rfl rfl rfl ja rfl rfl rfl rfl rfl rfl ?_;refine A4 ?_;refine Bg 8 0 ?_;refine aS 89 (wU ⟨⟨p.i.f,(bn ia ib ic id s),p.i.fo,false⟩,p.a,((zF A B (bn ia ib ic id s)).getD (rl 0))⟩) rfl rfl ?_;refine Bg 9 0 ?_;refine aS 90 (wU ⟨⟨(bn ia ib ic id s),p.i.t,true,p.i.tp⟩,((zF A B (bn ia ib ic id s)).getD (rl 0)),p.b⟩) rfl rfl ?_;refine(Bl 76 [(0,_),(1,_)]) (qmX) (fun g6=>?_);refine(Qa (s:=38) (len:=o.length) (n2:=2) 5 10 (fun r=>[_,_,_,_,_,⟨some r.g,63,aj aZ o++(aZ ⟨⟨p.i.f,(bn ia ib ic id s),p.i.fo,false⟩,p.a,((zF A B (bn ia ib ic id s)).getD (rl 0))⟩++aZ ⟨⟨(bn ia ib ic id s),p.i.t,true,p.i.tp⟩,((zF A B (bn ia ib ic id s)).getD (rl 0)),p.b⟩),r.n,true⟩,_,_,_,_,_]) u32 KW) (dH.length o) h3 h4 (fun v hv=>(List.mem_append.1 (show v∈aZ ⟨⟨p.i.f,(bn ia ib ic id s),p.i.fo,false⟩,p.a,((zF A B (bn ia ib ic id s)).getD (rl 0))⟩++aZ ⟨⟨(bn ia ib ic id s),p.i.t,true,p.i.tp⟩,((zF A B (bn ia ib ic id s)).getD (rl 0)),p.b⟩ from hv)).elim (dH.one _ v) (dH.one _ v)) (fun r=>?_);refine A6 ?_;refine Ar (((k+1:Nat):Int)) ?_;refine A3 ?_;exact Nl ⟨⟨k+1,o++[⟨⟨p.i.f,(bn ia ib ic id s),p.i.fo,false⟩,p.a,((zF A B (bn ia ib ic id s)).getD (rl 0))⟩,⟨⟨(bn ia ib ic id s),p.i.t,true,p.i.tp⟩,((zF A B (bn ia ib ic id s)).getD (rl 0)),p.b⟩],some r.g,r.n,r.cap⟩,hlt,by rw[GU hp,<-hI,qkJ hat h1 h2],jB,r.hn⟩ (hμ:=TF) (ht:=⟨rfl,rfl,rfl,rfl,(aQ rfl jO),rfl,trivial⟩) (hL:=(az [some 0,some 1,some 2,some 3,some 4,some 5] ⟨pR,pR,pR,pR,pR,⟨_,rfl,bg SS⟩,trivial⟩ rfl rfl))
     ·have h2:decide (aV (bn ia ib ic id s) p.i.t<0)=false:=heQ;refine A2 ?_;refine Bg 6 0 ?_;refine(Bl 38 [(0,_)]) (nY) (fun g6=>?_);refine(Qa (s:=38) (len:=o.length) (n2:=1) 5 8 (fun r=>[_,_,_,_,_,⟨some r.g,63,aj aZ o++aZ (p),r.n,true⟩,_,_,_]) u32 KW) (dH.length o) h3 h4 (dH.one (p)) (fun r=>?_);refine A6 ?_;refine Ar (((k+1:Nat):Int)) ?_;refine A3 ?_;exact Nl ⟨⟨k+1,o++[p],some r.g,r.n,r.cap⟩,hlt,by rw[GU hp,<-hI,qoO h2],jB,r.hn⟩ (hμ:=TF) (ht:=⟨rfl,rfl,rfl,rfl,(aQ rfl jO),rfl,trivial⟩) (hL:=(az [some 0,some 1,some 2,some 3,some 4,some 5] ⟨pR,pR,pR,pR,pR,⟨_,rfl,bg kz⟩,trivial⟩ rfl rfl))
    ·have h1:decide (aV p.i.f (bn ia ib ic id s)<0)=false:=hdQ;refine nI ?_;refine Bg 6 0 ?_;refine(Bl 38 [(0,_)]) (nY) (fun g6=>?_);refine(Qa (s:=38) (len:=o.length) (n2:=1) 5 8 (fun r=>[_,_,_,_,_,⟨some r.g,63,aj aZ o++aZ (p),r.n,true⟩,_,_,_]) u32 KW) (dH.length o) h3 h4 (dH.one (p)) (fun r=>?_);refine A6 ?_;refine Ar (((k+1:Nat):Int)) ?_;refine A3 ?_;exact Nl ⟨⟨k+1,o++[p],some r.g,r.n,r.cap⟩,hlt,by rw[GU hp,<-hI,qoN h1],jB,r.hn⟩ (hμ:=TF) (ht:=⟨rfl,rfl,rfl,rfl,(aQ rfl jO),rfl,trivial⟩) (hL:=(az [some 0,some 1,some 2,some 3,some 4,some 5] ⟨pR,pR,pR,pR,pR,⟨_,rfl,bg kz⟩,trivial⟩ rfl rfl))
   ·have hs:(zF A B (bn ia ib ic id s)).isSome=false:=hcQ;refine A20 ?_;refine Bg 6 0 ?_;refine(Bl 38 [(0,_)]) (nY) (fun g6=>?_);refine(Qa (s:=38) (len:=o.length) (n2:=1) 5 8 (fun r=>[_,_,_,_,_,⟨some r.g,63,aj aZ o++aZ (p),r.n,true⟩,_,_,_]) u32 KW) (dH.length o) h3 h4 (dH.one (p)) (fun r=>?_);refine A6 ?_;refine Ar (((k+1:Nat):Int)) ?_;refine A3 ?_;exact Nl ⟨⟨k+1,o++[p],some r.g,r.n,r.cap⟩,hlt,by rw[GU hp,<-hI,qoM hs],jB,r.hn⟩ (hμ:=TF) (ht:=⟨rfl,rfl,rfl,rfl,(aQ rfl jO),rfl,trivial⟩) (hL:=(az [some 0,some 1,some 2,some 3,some 4,some 5] ⟨pR,pR,pR,pR,pR,⟨_,rfl,bg kz⟩,trivial⟩ rfl rfl))
  ·have hge:k=((ag A B).map ay).length:=lw;subst hge;rw[List.take_length] at hI;refine FN ?_;refine Cd ?_ ?_<;>intro hcQ
   ·have hw0:((ag A B).map ay).length=0:=qoP (by rw[<-hI];have e:=of_decide_eq_true hcQ;omega);refine A4 ?_;refine XM 3 0 ?_;refine gJ [_,_,_] [0,1,2] rfl rfl rfl (qsJ F ub uN uc huc vb vN vc hvc ((ag A B).map ay) wb wN wc hwc hn42 (bG ((ag A B).map ay)) F.sz5 (Nat.le_trans F.mostz ae) F.cS (F.nil hw0 _ _)) ⟨pS,pS,pS,trivial⟩ rfl ?_;refine A1 ?_;refine aS 104 (.bool true) rfl (congrArg Value.bool ax) ?_;refine A5 ?_;refine aO rfl (au rfl) (fun w hL=>⟨(),?_,hL.pk []⟩);exact rfl
   ·have hw1:((ag A B).map ay).length≠0:=fun e=>of_decide_eq_false hcQ (by rw[hI,List.length_eq_zero_iff.1 e];rfl)
    have hI2:o=(bP A B (bn ia ib ic id s) ((ag A B).map ay)):=hI;subst hI2;refine A3 ?_;let sX:List (Nat×Value)->List (Nat×Value):=fun l=>(5,aA ub 0 A.length uc)::(6,aA vb 0 B.length vc)::l;let sY:List aH->List aH:=fun l=>⟨ub,100,aj aP A,uN,true⟩::⟨vb,100,aj aP B,vN,true⟩::⟨wb,63,aj aZ ((ag A B).map ay),wN,true⟩::⟨some g2,40,iE (aA wb 0 ((ag A B).map ay).length wc) (bG ((ag A B).map ay)),10,true⟩::⟨some g3,38,jX (bn ia ib ic id s),9,true⟩::⟨ob,63,aj aZ (bP A B (bn ia ib ic id s) ((ag A B).map ay)),oN,true⟩::l;refine uy (nt:=127) (Z:=Nat×Nat) (fun⟨g16,g17⟩=>sX [(16,bf g16),(17,bf g17)]) (fun⟨g16,g17⟩=>sY [⟨some g16,40,iE (aA ob 0 (bP A B (bn ia ib ic id s) ((ag A B).map ay)).length oc) (bG ((ag A B).map ay)),10,true⟩,⟨some g17,40,iE (aA ob 0 (bP A B (bn ia ib ic id s) ((ag A B).map ay)).length oc) ⟨(bG ((ag A B).map ay)).p+((1:Int):Rat),(bG ((ag A B).map ay)).r,(bG ((ag A B).map ay)).n⟩,10,true⟩]) 14 [0,1,2,3,4,5,6,7,8,9,10,11,12,13] mixed ak (fun hd0=>?_) ?_
    ·refine aC (nt:=127) (Z:=Nat×Nat) (fun⟨g16,g17⟩=>sX [(7,bf g2),(8,bf g3),(9,aA ob 0 (bP A B (bn ia ib ic id s) ((ag A B).map ay)).length oc),(114,BD (aA ob 0 (bP A B (bn ia ib ic id s) ((ag A B).map ay)).length oc) ⟨(bG ((ag A B).map ay)).p+((1:Int):Rat),(bG ((ag A B).map ay)).r,(bG ((ag A B).map ay)).n⟩),(16,bf g16),(17,bf g17)]) (fun⟨g16,g17⟩=>sY [⟨some g16,40,iE (aA ob 0 (bP A B (bn ia ib ic id s) ((ag A B).map ay)).length oc) (bG ((ag A B).map ay)),10,true⟩,⟨some g17,40,iY,10,true⟩]) 1 [13] (fun z=>?_) (fun hd1=>?_)
     ·obtain⟨g16,g17⟩:=z;(try dsimp only);refine x9 13 ?_
      ·refine Ss 7 ?_;refine A1 ?_;exact Nw hd0 ⟨g16,g17⟩ [0,1,2,3,4,5,6,7]
     refine aC (nt:=127) (Z:=Nat×Nat) (fun⟨g16,g17⟩=>sX [(7,bf g2),(8,bf g3),(9,aA ob 0 (bP A B (bn ia ib ic id s) ((ag A B).map ay)).length oc),(108,BD (aA ob 0 (bP A B (bn ia ib ic id s) ((ag A B).map ay)).length oc) (bG ((ag A B).map ay))),(114,BD (aA ob 0 (bP A B (bn ia ib ic id s) ((ag A B).map ay)).length oc) ⟨(bG ((ag A B).map ay)).p+((1:Int):Rat),(bG ((ag A B).map ay)).r,(bG ((ag A B).map ay)).n⟩),(16,bf g16),(17,bf g17)]) (fun⟨g16,g17⟩=>sY [⟨some g16,40,iY,10,true⟩,⟨some g17,40,iY,10,true⟩]) 2 [12,13] (fun z=>?_) (fun hd2=>?_)
     ·obtain⟨g16,g17⟩:=z;(try dsimp only);refine x9 12 ?_
      ·refine Ss 6 ?_;refine A1 ?_;exact Nw hd1 ⟨g16,g17⟩ [0,1,2,3,4,5,6,7]
     refine aC (nt:=127) (Z:=Nat) (fun g17=>sX [(7,bf g2),(8,bf g3),(9,aA ob 0 (bP A B (bn ia ib ic id s) ((ag A B).map ay)).length oc),(108,BD (aA ob 0 (bP A B (bn ia ib ic id s) ((ag A B).map ay)).length oc) (bG ((ag A B).map ay))),(114,BD (aA ob 0 (bP A B (bn ia ib ic id s) ((ag A B).map ay)).length oc) ⟨(bG ((ag A B).map ay)).p+((1:Int):Rat),(bG ((ag A B).map ay)).r,(bG ((ag A B).map ay)).n⟩),(17,bf g17)]) (fun g17=>sY [⟨some g17,40,iY,10,true⟩]) 3 [10,12,13] (fun g17=>?_) (fun hd3=>?_)
     ·(try dsimp only);refine x9 10 ?_
      ·refine Al 10 vV (fun g5=>?_);refine A1 ?_;exact Nw hd2 ⟨g5,g17⟩ [0,1,2,3,4,5,7,6]
     refine aC (nt:=127) (Z:=Nat) (fun g16=>sX [(7,bf g2),(8,bf g3),(9,aA ob 0 (bP A B (bn ia ib ic id s) ((ag A B).map ay)).length oc),(108,BD (aA ob 0 (bP A B (bn ia ib ic id s) ((ag A B).map ay)).length oc) (bG ((ag A B).map ay))),(114,BD (aA ob 0 (bP A B (bn ia ib ic id s) ((ag A B).map ay)).length oc) ⟨(bG ((ag A B).map ay)).p+((1:Int):Rat),(bG ((ag A B).map ay)).r,(bG ((ag A B).map ay)).n⟩),(16,bf g16)]) (fun g16=>sY [⟨some g16,40,iY,10,true⟩]) 3 [11,12,13] (fun g16=>?_) (fun hd4=>?_)
     ·(try dsimp only);refine x9 11 ?_
      ·refine Al 10 vV (fun g5=>?_);refine A1 ?_;exact Nw hd2 ⟨g16,g5⟩ [0,1,2,3,4,5,6,7]
     refine aC (nt:=127) (Z:=Nat×Nat) (fun⟨g16,g17⟩=>sX [(7,bf g2),(8,bf g3),(9,aA ob 0 (bP A B (bn ia ib ic id s) ((ag A B).map ay)).length oc),(105,aA ob 0 (bP A B (bn ia ib ic id s) ((ag A B).map ay)).length oc),(106,.pointer (some ⟨g2,1,none⟩)),(114,BD (aA ob 0 (bP A B (bn ia ib ic id s) ((ag A B).map ay)).length oc) ⟨(bG ((ag A B).map ay)).p+((1:Int):Rat),(bG ((ag A B).map ay)).r,(bG ((ag A B).map ay)).n⟩),(16,bf g16),(17,bf g17)]) (fun⟨g16,g17⟩=>sY [⟨some g16,40,iY,10,true⟩,⟨some g17,40,iY,10,true⟩]) 4 [2,3,12,13] (fun z=>?_) (fun hd5=>?_)
     ·obtain⟨g16,g17⟩:=z;(try dsimp only);refine x9 2 ?_
      ·refine pq ?_;exact Nw hd2 ⟨g16,g17⟩ [0,1,2,3,4,5,6,7]
     refine aC (nt:=127) (Z:=Nat×Nat) (fun⟨g16,g17⟩=>sX [(7,bf g2),(8,bf g3),(9,aA ob 0 (bP A B (bn ia ib ic id s) ((ag A B).map ay)).length oc),(108,BD (aA ob 0 (bP A B (bn ia ib ic id s) ((ag A B).map ay)).length oc) (bG ((ag A B).map ay))),(109,aA ob 0 (bP A B (bn ia ib ic id s) ((ag A B).map ay)).length oc),(111,RV (bG ((ag A B).map ay))),(112,Q ((1:Int):Rat)),(16,bf g16),(17,bf g17)]) (fun⟨g16,g17⟩=>sY [⟨some g16,40,iY,10,true⟩,⟨some g17,40,iY,10,true⟩]) 4 [8,9,12,13] (fun z=>?_) (fun hd6=>?_)
     ·obtain⟨g16,g17⟩:=z;(try dsimp only);refine x9 8 ?_
      ·refine Jd ?_;exact Nw hd2 ⟨g16,g17⟩ [0,1,2,3,4,5,6,7]
     refine aC (nt:=127) (Z:=Unit) (fun _=>sX [(7,bf g2),(8,bf g3),(9,aA ob 0 (bP A B (bn ia ib ic id s) ((ag A B).map ay)).length oc),(108,BD (aA ob 0 (bP A B (bn ia ib ic id s) ((ag A B).map ay)).length oc) (bG ((ag A B).map ay))),(114,BD (aA ob 0 (bP A B (bn ia ib ic id s) ((ag A B).map ay)).length oc) ⟨(bG ((ag A B).map ay)).p+((1:Int):Rat),(bG ((ag A B).map ay)).r,(bG ((ag A B).map ay)).n⟩)]) (fun _=>sY []) 4 [10,11,12,13] (fun z=>?_) (fun hd7=>?_)
     ·(try dsimp only);refine aI [10,11] ak rfl ⟨⟨_,rfl,?_⟩,⟨_,rfl,?_⟩,trivial⟩
      ·refine Al 10 vV (fun g4=>?_);refine A1 ?_;exact Nw hd4 g4 [0,1,2,3,4,5,6]
      ·refine Al 10 vV (fun g4=>?_);refine A1 ?_;exact Nw hd3 g4 [0,1,2,3,4,5,6]
     refine aC (nt:=127) (Z:=Nat) (fun g17=>sX [(7,bf g2),(8,bf g3),(9,aA ob 0 (bP A B (bn ia ib ic id s) ((ag A B).map ay)).length oc),(105,aA ob 0 (bP A B (bn ia ib ic id s) ((ag A B).map ay)).length oc),(106,.pointer (some ⟨g2,1,none⟩)),(114,BD (aA ob 0 (bP A B (bn ia ib ic id s) ((ag A B).map ay)).length oc) ⟨(bG ((ag A B).map ay)).p+((1:Int):Rat),(bG ((ag A B).map ay)).r,(bG ((ag A B).map ay)).n⟩),(17,bf g17)]) (fun g17=>sY [⟨some g17,40,iY,10,true⟩]) 5 [2,3,10,12,13] (fun g17=>?_) (fun hd8=>?_)
     ·(try dsimp only);refine aI [2,10] ak rfl ⟨⟨_,rfl,?_⟩,⟨_,rfl,?_⟩,trivial⟩
      ·refine pq ?_;exact Nw hd3 g17 [0,1,2,3,4,5,6]
      ·refine Al 10 vV (fun g5=>?_);refine A1 ?_;exact Nw hd5 ⟨g5,g17⟩ [0,1,2,3,4,5,7,6]
     refine aC (nt:=127) (Z:=Nat) (fun g16=>sX [(7,bf g2),(8,bf g3),(9,aA ob 0 (bP A B (bn ia ib ic id s) ((ag A B).map ay)).length oc),(105,aA ob 0 (bP A B (bn ia ib ic id s) ((ag A B).map ay)).length oc),(106,.pointer (some ⟨g2,1,none⟩)),(114,BD (aA ob 0 (bP A B (bn ia ib ic id s) ((ag A B).map ay)).length oc) ⟨(bG ((ag A B).map ay)).p+((1:Int):Rat),(bG ((ag A B).map ay)).r,(bG ((ag A B).map ay)).n⟩),(16,bf g16)]) (fun g16=>sY [⟨some g16,40,iY,10,true⟩]) 5 [2,3,11,12,13] (fun g16=>?_) (fun hd9=>?_)
     ·(try dsimp only);refine aI [2,11] ak rfl ⟨⟨_,rfl,?_⟩,⟨_,rfl,?_⟩,trivial⟩
      ·refine pq ?_;exact Nw hd4 g16 [0,1,2,3,4,5,6]
      ·refine Al 10 vV (fun g5=>?_);refine A1 ?_;exact Nw hd5 ⟨g16,g5⟩ [0,1,2,3,4,5,6,7]
     refine aC (nt:=127) (Z:=Nat×Nat) (fun⟨g16,g17⟩=>sX [(7,bf g2),(8,bf g3),(9,aA ob 0 (bP A B (bn ia ib ic id s) ((ag A B).map ay)).length oc),(108,BD (aA ob 0 (bP A B (bn ia ib ic id s) ((ag A B).map ay)).length oc) (bG ((ag A B).map ay))),(109,aA ob 0 (bP A B (bn ia ib ic id s) ((ag A B).map ay)).length oc),(110,.pointer (some ⟨g2,1,none⟩)),(112,Q ((1:Int):Rat)),(16,bf g16),(17,bf g17)]) (fun⟨g16,g17⟩=>sY [⟨some g16,40,iY,10,true⟩,⟨some g17,40,iY,10,true⟩]) 5 [6,8,9,12,13] (fun z=>?_) (fun hd10=>?_)
     ·obtain⟨g16,g17⟩:=z;(try dsimp only);refine x9 6 ?_
      ·refine ug ?_;exact Nw hd6 ⟨g16,g17⟩ [0,1,2,3,4,5,6,7]
     refine aC (nt:=127) (Z:=Nat×Nat) (fun⟨g16,g17⟩=>sX [(7,bf g2),(8,bf g3),(9,aA ob 0 (bP A B (bn ia ib ic id s) ((ag A B).map ay)).length oc),(108,BD (aA ob 0 (bP A B (bn ia ib ic id s) ((ag A B).map ay)).length oc) (bG ((ag A B).map ay))),(109,aA ob 0 (bP A B (bn ia ib ic id s) ((ag A B).map ay)).length oc),(111,RV (bG ((ag A B).map ay))),(16,bf g16),(17,bf g17)]) (fun⟨g16,g17⟩=>sY [⟨some g16,40,iY,10,true⟩,⟨some g17,40,iY,10,true⟩]) 5 [7,8,9,12,13] (fun z=>?_) (fun hd11=>?_)
     ·obtain⟨g16,g17⟩:=z;(try dsimp only);refine x9 7 ?_
      ·refine uf ?_;exact Nw hd6 ⟨g16,g17⟩ [0,1,2,3,4,5,6,7]
     refine aC (nt:=127) (Z:=Nat) (fun g17=>sX [(7,bf g2),(8,bf g3),(9,aA ob 0 (bP A B (bn ia ib ic id s) ((ag A B).map ay)).length oc),(108,BD (aA ob 0 (bP A B (bn ia ib ic id s) ((ag A B).map ay)).length oc) (bG ((ag A B).map ay))),(109,aA ob 0 (bP A B (bn ia ib ic id s) ((ag A B).map ay)).length oc),(111,RV (bG ((ag A B).map ay))),(112,Q ((1:Int):Rat)),(17,bf g17)]) (fun g17=>sY [⟨some g17,40,iY,10,true⟩]) 5 [8,9,10,12,13] (fun g17=>?_) (fun hd12=>?_)
     ·(try dsimp only);refine aI [8,10] ak rfl ⟨⟨_,rfl,?_⟩,⟨_,rfl,?_⟩,trivial⟩
      ·refine Jd ?_;exact Nw hd3 g17 [0,1,2,3,4,5,6]
      ·refine Al 10 vV (fun g5=>?_);refine A1 ?_;exact Nw hd6 ⟨g5,g17⟩ [0,1,2,3,4,5,7,6]
     refine aC (nt:=127) (Z:=Nat) (fun g16=>sX [(7,bf g2),(8,bf g3),(9,aA ob 0 (bP A B (bn ia ib ic id s) ((ag A B).map ay)).length oc),(108,BD (aA ob 0 (bP A B (bn ia ib ic id s) ((ag A B).map ay)).length oc) (bG ((ag A B).map ay))),(109,aA ob 0 (bP A B (bn ia ib ic id s) ((ag A B).map ay)).length oc),(111,RV (bG ((ag A B).map ay))),(112,Q ((1:Int):Rat)),(16,bf g16)]) (fun g16=>sY [⟨some g16,40,iY,10,true⟩]) 5 [8,9,11,12,13] (fun g16=>?_) (fun hd13=>?_)
     ·(try dsimp only);refine aI [8,11] ak rfl ⟨⟨_,rfl,?_⟩,⟨_,rfl,?_⟩,trivial⟩
      ·refine Jd ?_;exact Nw hd4 g16 [0,1,2,3,4,5,6]
      ·refine Al 10 vV (fun g5=>?_);refine A1 ?_;exact Nw hd6 ⟨g16,g5⟩ [0,1,2,3,4,5,6,7]
     refine aC (nt:=127) (Z:=Nat×Nat) (fun⟨g16,g17⟩=>sX [(7,bf g2),(8,bf g3),(9,aA ob 0 (bP A B (bn ia ib ic id s) ((ag A B).map ay)).length oc),(105,aA ob 0 (bP A B (bn ia ib ic id s) ((ag A B).map ay)).length oc),(106,.pointer (some ⟨g2,1,none⟩)),(109,aA ob 0 (bP A B (bn ia ib ic id s) ((ag A B).map ay)).length oc),(111,RV (bG ((ag A B).map ay))),(112,Q ((1:Int):Rat)),(16,bf g16),(17,bf g17)]) (fun⟨g16,g17⟩=>sY [⟨some g16,40,iY,10,true⟩,⟨some g17,40,iY,10,true⟩]) 6 [2,3,8,9,12,13] (fun z=>?_) (fun hd14=>?_)
     ·obtain⟨g16,g17⟩:=z;(try dsimp only);refine aI [2,8] ak rfl ⟨⟨_,rfl,?_⟩,⟨_,rfl,?_⟩,trivial⟩
      ·refine pq ?_;exact Nw hd6 ⟨g16,g17⟩ [0,1,2,3,4,5,6,7]
      ·refine Jd ?_;exact Nw hd5 ⟨g16,g17⟩ [0,1,2,3,4,5,6,7]
     refine aC (nt:=127) (Z:=Unit) (fun _=>sX [(7,bf g2),(8,bf g3),(9,aA ob 0 (bP A B (bn ia ib ic id s) ((ag A B).map ay)).length oc),(105,aA ob 0 (bP A B (bn ia ib ic id s) ((ag A B).map ay)).length oc),(106,.pointer (some ⟨g2,1,none⟩)),(114,BD (aA ob 0 (bP A B (bn ia ib ic id s) ((ag A B).map ay)).length oc) ⟨(bG ((ag A B).map ay)).p+((1:Int):Rat),(bG ((ag A B).map ay)).r,(bG ((ag A B).map ay)).n⟩)]) (fun _=>sY []) 6 [2,3,10,11,12,13] (fun z=>?_) (fun hd15=>?_)
     ·(try dsimp only);refine aI [2,10,11] ak rfl ⟨⟨_,rfl,?_⟩,⟨_,rfl,?_⟩,⟨_,rfl,?_⟩,trivial⟩
      ·refine pq ?_;exact Nw hd7 () [0,1,2,3,4,5]
      ·refine Al 10 vV (fun g4=>?_);refine A1 ?_;exact Nw hd9 g4 [0,1,2,3,4,5,6]
      ·refine Al 10 vV (fun g4=>?_);refine A1 ?_;exact Nw hd8 g4 [0,1,2,3,4,5,6]
     refine aC (nt:=127) (Z:=Nat×Nat) (fun⟨g16,g17⟩=>sX [(7,bf g2),(8,bf g3),(9,aA ob 0 (bP A B (bn ia ib ic id s) ((ag A B).map ay)).length oc),(108,BD (aA ob 0 (bP A B (bn ia ib ic id s) ((ag A B).map ay)).length oc) (bG ((ag A B).map ay))),(109,aA ob 0 (bP A B (bn ia ib ic id s) ((ag A B).map ay)).length oc),(110,.pointer (some ⟨g2,1,none⟩)),(16,bf g16),(17,bf g17)]) (fun⟨g16,g17⟩=>sY [⟨some g16,40,iY,10,true⟩,⟨some g17,40,iY,10,true⟩]) 6 [6,7,8,9,12,13] (fun z=>?_) (fun hd16=>?_)
     ·obtain⟨g16,g17⟩:=z;(try dsimp only);refine aI [6,7] ak rfl ⟨⟨_,rfl,?_⟩,⟨_,rfl,?_⟩,trivial⟩
      ·refine ug ?_;exact Nw hd11 ⟨g16,g17⟩ [0,1,2,3,4,5,6,7]
      ·refine uf ?_;exact Nw hd10 ⟨g16,g17⟩ [0,1,2,3,4,5,6,7]
     refine aC (nt:=127) (Z:=Nat) (fun g17=>sX [(7,bf g2),(8,bf g3),(9,aA ob 0 (bP A B (bn ia ib ic id s) ((ag A B).map ay)).length oc),(108,BD (aA ob 0 (bP A B (bn ia ib ic id s) ((ag A B).map ay)).length oc) (bG ((ag A B).map ay))),(109,aA ob 0 (bP A B (bn ia ib ic id s) ((ag A B).map ay)).length oc),(110,.pointer (some ⟨g2,1,none⟩)),(112,Q ((1:Int):Rat)),(17,bf g17)]) (fun g17=>sY [⟨some g17,40,iY,10,true⟩]) 6 [6,8,9,10,12,13] (fun g17=>?_) (fun hd17=>?_)
     ·(try dsimp only);refine aI [6,10] ak rfl ⟨⟨_,rfl,?_⟩,⟨_,rfl,?_⟩,trivial⟩
      ·refine ug ?_;exact Nw hd12 g17 [0,1,2,3,4,5,6]
      ·refine Al 10 vV (fun g5=>?_);refine A1 ?_;exact Nw hd10 ⟨g5,g17⟩ [0,1,2,3,4,5,7,6]
     refine aC (nt:=127) (Z:=Nat) (fun g16=>sX [(7,bf g2),(8,bf g3),(9,aA ob 0 (bP A B (bn ia ib ic id s) ((ag A B).map ay)).length oc),(108,BD (aA ob 0 (bP A B (bn ia ib ic id s) ((ag A B).map ay)).length oc) (bG ((ag A B).map ay))),(109,aA ob 0 (bP A B (bn ia ib ic id s) ((ag A B).map ay)).length oc),(110,.pointer (some ⟨g2,1,none⟩)),(112,Q ((1:Int):Rat)),(16,bf g16)]) (fun g16=>sY [⟨some g16,40,iY,10,true⟩]) 6 [6,8,9,11,12,13] (fun g16=>?_) (fun hd18=>?_)
     ·(try dsimp only);refine aI [6,11] ak rfl ⟨⟨_,rfl,?_⟩,⟨_,rfl,?_⟩,trivial⟩
      ·refine ug ?_;exact Nw hd13 g16 [0,1,2,3,4,5,6]
      ·refine Al 10 vV (fun g5=>?_);refine A1 ?_;exact Nw hd10 ⟨g16,g5⟩ [0,1,2,3,4,5,6,7]
     refine aC (nt:=127) (Z:=Nat) (fun g17=>sX [(7,bf g2),(8,bf g3),(9,aA ob 0 (bP A B (bn ia ib ic id s) ((ag A B).map ay)).length oc),(108,BD (aA ob 0 (bP A B (bn ia ib ic id s) ((ag A B).map ay)).length oc) (bG ((ag A B).map ay))),(109,aA ob 0 (bP A B (bn ia ib ic id s) ((ag A B).map ay)).length oc),(111,RV (bG ((ag A B).map ay))),(17,bf g17)]) (fun g17=>sY [⟨some g17,40,iY,10,true⟩]) 6 [7,8,9,10,12,13] (fun g17=>?_) (fun hd19=>?_)
     ·(try dsimp only);refine aI [7,10] ak rfl ⟨⟨_,rfl,?_⟩,⟨_,rfl,?_⟩,trivial⟩
      ·refine uf ?_;exact Nw hd12 g17 [0,1,2,3,4,5,6]
      ·refine Al 10 vV (fun g5=>?_);refine A1 ?_;exact Nw hd11 ⟨g5,g17⟩ [0,1,2,3,4,5,7,6]
     refine aC (nt:=127) (Z:=Nat) (fun g16=>sX [(7,bf g2),(8,bf g3),(9,aA ob 0 (bP A B (bn ia ib ic id s) ((ag A B).map ay)).length oc),(108,BD (aA ob 0 (bP A B (bn ia ib ic id s) ((ag A B).map ay)).length oc) (bG ((ag A B).map ay))),(109,aA ob 0 (bP A B (bn ia ib ic id s) ((ag A B).map ay)).length oc),(111,RV (bG ((ag A B).map ay))),(16,bf g16)]) (fun g16=>sY [⟨some g16,40,iY,10,true⟩]) 6 [7,8,9,11,12,13] (fun g16=>?_) (fun hd20=>?_)
     ·(try dsimp only);refine aI [7,11] ak rfl ⟨⟨_,rfl,?_⟩,⟨_,rfl,?_⟩,trivial⟩
      ·refine uf ?_;exact Nw hd13 g16 [0,1,2,3,4,5,6]
      ·refine Al 10 vV (fun g5=>?_);refine A1 ?_;exact Nw hd11 ⟨g16,g5⟩ [0,1,2,3,4,5,6,7]
     refine aC (nt:=127) (Z:=Unit) (fun _=>sX [(7,bf g2),(8,bf g3),(9,aA ob 0 (bP A B (bn ia ib ic id s) ((ag A B).map ay)).length oc),(108,BD (aA ob 0 (bP A B (bn ia ib ic id s) ((ag A B).map ay)).length oc) (bG ((ag A B).map ay))),(109,aA ob 0 (bP A B (bn ia ib ic id s) ((ag A B).map ay)).length oc),(111,RV (bG ((ag A B).map ay))),(112,Q ((1:Int):Rat))]) (fun _=>sY []) 6 [8,9,10,11,12,13] (fun z=>?_) (fun hd21=>?_)
     ·(try dsimp only);refine aI [8,10,11] ak rfl ⟨⟨_,rfl,?_⟩,⟨_,rfl,?_⟩,⟨_,rfl,?_⟩,trivial⟩
      ·refine Jd ?_;exact Nw hd7 () [0,1,2,3,4,5]
      ·refine Al 10 vV (fun g4=>?_);refine A1 ?_;exact Nw hd13 g4 [0,1,2,3,4,5,6]
      ·refine Al 10 vV (fun g4=>?_);refine A1 ?_;exact Nw hd12 g4 [0,1,2,3,4,5,6]
     refine aC (nt:=127) (Z:=Nat×Nat) (fun⟨g16,g17⟩=>sX [(7,bf g2),(8,bf g3),(9,aA ob 0 (bP A B (bn ia ib ic id s) ((ag A B).map ay)).length oc),(105,aA ob 0 (bP A B (bn ia ib ic id s) ((ag A B).map ay)).length oc),(106,.pointer (some ⟨g2,1,none⟩)),(109,aA ob 0 (bP A B (bn ia ib ic id s) ((ag A B).map ay)).length oc),(110,.pointer (some ⟨g2,1,none⟩)),(112,Q ((1:Int):Rat)),(16,bf g16),(17,bf g17)]) (fun⟨g16,g17⟩=>sY [⟨some g16,40,iY,10,true⟩,⟨some g17,40,iY,10,true⟩]) 7 [2,3,6,8,9,12,13] (fun z=>?_) (fun hd22=>?_)
     ·obtain⟨g16,g17⟩:=z;(try dsimp only);refine aI [2,6] ak rfl ⟨⟨_,rfl,?_⟩,⟨_,rfl,?_⟩,trivial⟩
      ·refine pq ?_;exact Nw hd10 ⟨g16,g17⟩ [0,1,2,3,4,5,6,7]
      ·refine ug ?_;exact Nw hd14 ⟨g16,g17⟩ [0,1,2,3,4,5,6,7]
     refine aC (nt:=127) (Z:=Nat×Nat) (fun⟨g16,g17⟩=>sX [(7,bf g2),(8,bf g3),(9,aA ob 0 (bP A B (bn ia ib ic id s) ((ag A B).map ay)).length oc),(105,aA ob 0 (bP A B (bn ia ib ic id s) ((ag A B).map ay)).length oc),(106,.pointer (some ⟨g2,1,none⟩)),(109,aA ob 0 (bP A B (bn ia ib ic id s) ((ag A B).map ay)).length oc),(111,RV (bG ((ag A B).map ay))),(16,bf g16),(17,bf g17)]) (fun⟨g16,g17⟩=>sY [⟨some g16,40,iY,10,true⟩,⟨some g17,40,iY,10,true⟩]) 7 [2,3,7,8,9,12,13] (fun z=>?_) (fun hd23=>?_)
     ·obtain⟨g16,g17⟩:=z;(try dsimp only);refine aI [2,7] ak rfl ⟨⟨_,rfl,?_⟩,⟨_,rfl,?_⟩,trivial⟩
      ·refine pq ?_;exact Nw hd11 ⟨g16,g17⟩ [0,1,2,3,4,5,6,7]
      ·refine uf ?_;exact Nw hd14 ⟨g16,g17⟩ [0,1,2,3,4,5,6,7]
     refine aC (nt:=127) (Z:=Nat) (fun g17=>sX [(7,bf g2),(8,bf g3),(9,aA ob 0 (bP A B (bn ia ib ic id s) ((ag A B).map ay)).length oc),(105,aA ob 0 (bP A B (bn ia ib ic id s) ((ag A B).map ay)).length oc),(106,.pointer (some ⟨g2,1,none⟩)),(109,aA ob 0 (bP A B (bn ia ib ic id s) ((ag A B).map ay)).length oc),(111,RV (bG ((ag A B).map ay))),(112,Q ((1:Int):Rat)),(17,bf g17)]) (fun g17=>sY [⟨some g17,40,iY,10,true⟩]) 7 [2,3,8,9,10,12,13] (fun g17=>?_) (fun hd24=>?_)
     ·(try dsimp only);refine aI [2,8,10] ak rfl ⟨⟨_,rfl,?_⟩,⟨_,rfl,?_⟩,⟨_,rfl,?_⟩,trivial⟩
      ·refine pq ?_;exact Nw hd12 g17 [0,1,2,3,4,5,6]
      ·refine Jd ?_;exact Nw hd8 g17 [0,1,2,3,4,5,6]
      ·refine Al 10 vV (fun g5=>?_);refine A1 ?_;exact Nw hd14 ⟨g5,g17⟩ [0,1,2,3,4,5,7,6]
     refine aC (nt:=127) (Z:=Nat) (fun g16=>sX [(7,bf g2),(8,bf g3),(9,aA ob 0 (bP A B (bn ia ib ic id s) ((ag A B).map ay)).length oc),(105,aA ob 0 (bP A B (bn ia ib ic id s) ((ag A B).map ay)).length oc),(106,.pointer (some ⟨g2,1,none⟩)),(109,aA ob 0 (bP A B (bn ia ib ic id s) ((ag A B).map ay)).length oc),(111,RV (bG ((ag A B).map ay))),(112,Q ((1:Int):Rat)),(16,bf g16)]) (fun g16=>sY [⟨some g16,40,iY,10,true⟩]) 7 [2,3,8,9,11,12,13] (fun g16=>?_) (fun hd25=>?_)
     ·(try dsimp only);refine aI [2,8,11] ak rfl ⟨⟨_,rfl,?_⟩,⟨_,rfl,?_⟩,⟨_,rfl,?_⟩,trivial⟩
      ·refine pq ?_;exact Nw hd13 g16 [0,1,2,3,4,5,6]
      ·refine Jd ?_;exact Nw hd9 g16 [0,1,2,3,4,5,6]
      ·refine Al 10 vV (fun g5=>?_);refine A1 ?_;exact Nw hd14 ⟨g16,g5⟩ [0,1,2,3,4,5,6,7]
     refine aC (nt:=127) (Z:=Nat) (fun g17=>sX [(7,bf g2),(8,bf g3),(9,aA ob 0 (bP A B (bn ia ib ic id s) ((ag A B).map ay)).length oc),(108,BD (aA ob 0 (bP A B (bn ia ib ic id s) ((ag A B).map ay)).length oc) (bG ((ag A B).map ay))),(109,aA ob 0 (bP A B (bn ia ib ic id s) ((ag A B).map ay)).length oc),(110,.pointer (some ⟨g2,1,none⟩)),(17,bf g17)]) (fun g17=>sY [⟨some g17,40,iY,10,true⟩]) 7 [6,7,8,9,10,12,13] (fun g17=>?_) (fun hd26=>?_)
     ·(try dsimp only);refine aI [6,7,10] ak rfl ⟨⟨_,rfl,?_⟩,⟨_,rfl,?_⟩,⟨_,rfl,?_⟩,trivial⟩
      ·refine ug ?_;exact Nw hd19 g17 [0,1,2,3,4,5,6]
      ·refine uf ?_;exact Nw hd17 g17 [0,1,2,3,4,5,6]
      ·refine Al 10 vV (fun g5=>?_);refine A1 ?_;exact Nw hd16 ⟨g5,g17⟩ [0,1,2,3,4,5,7,6]
     refine aC (nt:=127) (Z:=Nat) (fun g16=>sX [(7,bf g2),(8,bf g3),(9,aA ob 0 (bP A B (bn ia ib ic id s) ((ag A B).map ay)).length oc),(108,BD (aA ob 0 (bP A B (bn ia ib ic id s) ((ag A B).map ay)).length oc) (bG ((ag A B).map ay))),(109,aA ob 0 (bP A B (bn ia ib ic id s) ((ag A B).map ay)).length oc),(110,.pointer (some ⟨g2,1,none⟩)),(16,bf g16)]) (fun g16=>sY [⟨some g16,40,iY,10,true⟩]) 7 [6,7,8,9,11,12,13] (fun g16=>?_) (fun hd27=>?_)
     ·(try dsimp only);refine aI [6,7,11] ak rfl ⟨⟨_,rfl,?_⟩,⟨_,rfl,?_⟩,⟨_,rfl,?_⟩,trivial⟩
      ·refine ug ?_;exact Nw hd20 g16 [0,1,2,3,4,5,6]
      ·refine uf ?_;exact Nw hd18 g16 [0,1,2,3,4,5,6]
      ·refine Al 10 vV (fun g5=>?_);refine A1 ?_;exact Nw hd16 ⟨g16,g5⟩ [0,1,2,3,4,5,6,7]
     refine aC (nt:=127) (Z:=Unit) (fun _=>sX [(7,bf g2),(8,bf g3),(9,aA ob 0 (bP A B (bn ia ib ic id s) ((ag A B).map ay)).length oc),(108,BD (aA ob 0 (bP A B (bn ia ib ic id s) ((ag A B).map ay)).length oc) (bG ((ag A B).map ay))),(109,aA ob 0 (bP A B (bn ia ib ic id s) ((ag A B).map ay)).length oc),(110,.pointer (some ⟨g2,1,none⟩)),(112,Q ((1:Int):Rat))]) (fun _=>sY []) 7 [6,8,9,10,11,12,13] (fun z=>?_) (fun hd28=>?_)
     ·(try dsimp only);refine aI [6,10,11] ak rfl ⟨⟨_,rfl,?_⟩,⟨_,rfl,?_⟩,⟨_,rfl,?_⟩,trivial⟩
      ·refine ug ?_;exact Nw hd21 () [0,1,2,3,4,5]
      ·refine Al 10 vV (fun g4=>?_);refine A1 ?_;exact Nw hd18 g4 [0,1,2,3,4,5,6]
      ·refine Al 10 vV (fun g4=>?_);refine A1 ?_;exact Nw hd17 g4 [0,1,2,3,4,5,6]
     refine aC (nt:=127) (Z:=Unit) (fun _=>sX [(7,bf g2),(8,bf g3),(9,aA ob 0 (bP A B (bn ia ib ic id s) ((ag A B).map ay)).length oc),(108,BD (aA ob 0 (bP A B (bn ia ib ic id s) ((ag A B).map ay)).length oc) (bG ((ag A B).map ay))),(109,aA ob 0 (bP A B (bn ia ib ic id s) ((ag A B).map ay)).length oc),(111,RV (bG ((ag A B).map ay)))]) (fun _=>sY []) 7 [7,8,9,10,11,12,13] (fun z=>?_) (fun hd29=>?_)
     ·(try dsimp only);refine aI [7,10,11] ak rfl ⟨⟨_,rfl,?_⟩,⟨_,rfl,?_⟩,⟨_,rfl,?_⟩,trivial⟩
      ·refine uf ?_;exact Nw hd21 () [0,1,2,3,4,5]
      ·refine Al 10 vV (fun g4=>?_);refine A1 ?_;exact Nw hd20 g4 [0,1,2,3,4,5,6]
      ·refine Al 10 vV (fun g4=>?_);refine A1 ?_;exact Nw hd19 g4 [0,1,2,3,4,5,6]
     refine aC (nt:=127) (Z:=Nat×Nat) (fun⟨g16,g17⟩=>sX [(7,bf g2),(8,bf g3),(9,aA ob 0 (bP A B (bn ia ib ic id s) ((ag A B).map ay)).length oc),(105,aA ob 0 (bP A B (bn ia ib ic id s) ((ag A B).map ay)).length oc),(106,.pointer (some ⟨g2,1,none⟩)),(109,aA ob 0 (bP A B (bn ia ib ic id s) ((ag A B).map ay)).length oc),(110,.pointer (some ⟨g2,1,none⟩)),(16,bf g16),(17,bf g17)]) (fun⟨g16,g17⟩=>sY [⟨some g16,40,iY,10,true⟩,⟨some g17,40,iY,10,true⟩]) 8 [2,3,6,7,8,9,12,13] (fun z=>?_) (fun hd30=>?_)
     ·obtain⟨g16,g17⟩:=z;(try dsimp only);refine aI [2,6,7] ak rfl ⟨⟨_,rfl,?_⟩,⟨_,rfl,?_⟩,⟨_,rfl,?_⟩,trivial⟩
      ·refine pq ?_;exact Nw hd16 ⟨g16,g17⟩ [0,1,2,3,4,5,6,7]
      ·refine ug ?_;exact Nw hd23 ⟨g16,g17⟩ [0,1,2,3,4,5,6,7]
      ·refine uf ?_;exact Nw hd22 ⟨g16,g17⟩ [0,1,2,3,4,5,6,7]
     refine aC (nt:=127) (Z:=Nat) (fun g17=>sX [(7,bf g2),(8,bf g3),(9,aA ob 0 (bP A B (bn ia ib ic id s) ((ag A B).map ay)).length oc),(105,aA ob 0 (bP A B (bn ia ib ic id s) ((ag A B).map ay)).length oc),(106,.pointer (some ⟨g2,1,none⟩)),(109,aA ob 0 (bP A B (bn ia ib ic id s) ((ag A B).map ay)).length oc),(110,.pointer (some ⟨g2,1,none⟩)),(112,Q ((1:Int):Rat)),(17,bf g17)]) (fun g17=>sY [⟨some g17,40,iY,10,true⟩]) 8 [2,3,6,8,9,10,12,13] (fun g17=>?_) (fun hd31=>?_)
     ·(try dsimp only);refine aI [2,6,10] ak rfl ⟨⟨_,rfl,?_⟩,⟨_,rfl,?_⟩,⟨_,rfl,?_⟩,trivial⟩
      ·refine pq ?_;exact Nw hd17 g17 [0,1,2,3,4,5,6]
      ·refine ug ?_;exact Nw hd24 g17 [0,1,2,3,4,5,6]
      ·refine Al 10 vV (fun g5=>?_);refine A1 ?_;exact Nw hd22 ⟨g5,g17⟩ [0,1,2,3,4,5,7,6]
     refine aC (nt:=127) (Z:=Nat) (fun g16=>sX [(7,bf g2),(8,bf g3),(9,aA ob 0 (bP A B (bn ia ib ic id s) ((ag A B).map ay)).length oc),(105,aA ob 0 (bP A B (bn ia ib ic id s) ((ag A B).map ay)).length oc),(106,.pointer (some ⟨g2,1,none⟩)),(109,aA ob 0 (bP A B (bn ia ib ic id s) ((ag A B).map ay)).length oc),(110,.pointer (some ⟨g2,1,none⟩)),(112,Q ((1:Int):Rat)),(16,bf g16)]) (fun g16=>sY [⟨some g16,40,iY,10,true⟩]) 8 [2,3,6,8,9,11,12,13] (fun g16=>?_) (fun hd32=>?_)
     ·(try dsimp only);refine aI [2,6,11] ak rfl ⟨⟨_,rfl,?_⟩,⟨_,rfl,?_⟩,⟨_,rfl,?_⟩,trivial⟩
      ·refine pq ?_;exact Nw hd18 g16 [0,1,2,3,4,5,6]
      ·refine ug ?_;exact Nw hd25 g16 [0,1,2,3,4,5,6]
      ·refine Al 10 vV (fun g5=>?_);refine A1 ?_;exact Nw hd22 ⟨g16,g5⟩ [0,1,2,3,4,5,6,7]
     refine aC (nt:=127) (Z:=Nat) (fun g17=>sX [(7,bf g2),(8,bf g3),(9,aA ob 0 (bP A B (bn ia ib ic id s) ((ag A B).map ay)).length oc),(105,aA ob 0 (bP A B (bn ia ib ic id s) ((ag A B).map ay)).length oc),(106,.pointer (some ⟨g2,1,none⟩)),(109,aA ob 0 (bP A B (bn ia ib ic id s) ((ag A B).map ay)).length oc),(111,RV (bG ((ag A B).map ay))),(17,bf g17)]) (fun g17=>sY [⟨some g17,40,iY,10,true⟩]) 8 [2,3,7,8,9,10,12,13] (fun g17=>?_) (fun hd33=>?_)
     ·(try dsimp only);refine aI [2,7,10] ak rfl ⟨⟨_,rfl,?_⟩,⟨_,rfl,?_⟩,⟨_,rfl,?_⟩,trivial⟩
      ·refine pq ?_;exact Nw hd19 g17 [0,1,2,3,4,5,6]
      ·refine uf ?_;exact Nw hd24 g17 [0,1,2,3,4,5,6]
      ·refine Al 10 vV (fun g5=>?_);refine A1 ?_;exact Nw hd23 ⟨g5,g17⟩ [0,1,2,3,4,5,7,6]
     refine aC (nt:=127) (Z:=Nat) (fun g16=>sX [(7,bf g2),(8,bf g3),(9,aA ob 0 (bP A B (bn ia ib ic id s) ((ag A B).map ay)).length oc),(105,aA ob 0 (bP A B (bn ia ib ic id s) ((ag A B).map ay)).length oc),(106,.pointer (some ⟨g2,1,none⟩)),(109,aA ob 0 (bP A B (bn ia ib ic id s) ((ag A B).map ay)).length oc),(111,RV (bG ((ag A B).map ay))),(16,bf g16)]) (fun g16=>sY [⟨some g16,40,iY,10,true⟩]) 8 [2,3,7,8,9,11,12,13] (fun g16=>?_) (fun hd34=>?_)
     ·(try dsimp only);refine aI [2,7,11] ak rfl ⟨⟨_,rfl,?_⟩,⟨_,rfl,?_⟩,⟨_,rfl,?_⟩,trivial⟩
      ·refine pq ?_;exact Nw hd20 g16 [0,1,2,3,4,5,6]
      ·refine uf ?_;exact Nw hd25 g16 [0,1,2,3,4,5,6]
      ·refine Al 10 vV (fun g5=>?_);refine A1 ?_;exact Nw hd23 ⟨g16,g5⟩ [0,1,2,3,4,5,6,7]
     refine aC (nt:=127) (Z:=Unit) (fun _=>sX [(7,bf g2),(8,bf g3),(9,aA ob 0 (bP A B (bn ia ib ic id s) ((ag A B).map ay)).length oc),(105,aA ob 0 (bP A B (bn ia ib ic id s) ((ag A B).map ay)).length oc),(106,.pointer (some ⟨g2,1,none⟩)),(109,aA ob 0 (bP A B (bn ia ib ic id s) ((ag A B).map ay)).length oc),(111,RV (bG ((ag A B).map ay))),(112,Q ((1:Int):Rat))]) (fun _=>sY []) 8 [2,3,8,9,10,11,12,13] (fun z=>?_) (fun hd35=>?_)
     ·(try dsimp only);refine aI [2,8,10,11] ak rfl ⟨⟨_,rfl,?_⟩,⟨_,rfl,?_⟩,⟨_,rfl,?_⟩,⟨_,rfl,?_⟩,trivial⟩
      ·refine pq ?_;exact Nw hd21 () [0,1,2,3,4,5]
      ·refine Jd ?_;exact Nw hd15 () [0,1,2,3,4,5]
      ·refine Al 10 vV (fun g4=>?_);refine A1 ?_;exact Nw hd25 g4 [0,1,2,3,4,5,6]
      ·refine Al 10 vV (fun g4=>?_);refine A1 ?_;exact Nw hd24 g4 [0,1,2,3,4,5,6]
     refine aC (nt:=127) (Z:=Unit) (fun _=>sX [(7,bf g2),(8,bf g3),(9,aA ob 0 (bP A B (bn ia ib ic id s) ((ag A B).map ay)).length oc),(108,BD (aA ob 0 (bP A B (bn ia ib ic id s) ((ag A B).map ay)).length oc) (bG ((ag A B).map ay))),(109,aA ob 0 (bP A B (bn ia ib ic id s) ((ag A B).map ay)).length oc),(110,.pointer (some ⟨g2,1,none⟩))]) (fun _=>sY []) 8 [6,7,8,9,10,11,12,13] (fun z=>?_) (fun hd36=>?_)
     ·(try dsimp only);refine aI [6,7,10,11] ak rfl ⟨⟨_,rfl,?_⟩,⟨_,rfl,?_⟩,⟨_,rfl,?_⟩,⟨_,rfl,?_⟩,trivial⟩
      ·refine ug ?_;exact Nw hd29 () [0,1,2,3,4,5]
      ·refine uf ?_;exact Nw hd28 () [0,1,2,3,4,5]
      ·refine Al 10 vV (fun g4=>?_);refine A1 ?_;exact Nw hd27 g4 [0,1,2,3,4,5,6]
      ·refine Al 10 vV (fun g4=>?_);refine A1 ?_;exact Nw hd26 g4 [0,1,2,3,4,5,6]
     refine aC (nt:=127) (Z:=Nat) (fun g17=>sX [(7,bf g2),(8,bf g3),(9,aA ob 0 (bP A B (bn ia ib ic id s) ((ag A B).map ay)).length oc),(105,aA ob 0 (bP A B (bn ia ib ic id s) ((ag A B).map ay)).length oc),(106,.pointer (some ⟨g2,1,none⟩)),(109,aA ob 0 (bP A B (bn ia ib ic id s) ((ag A B).map ay)).length oc),(110,.pointer (some ⟨g2,1,none⟩)),(17,bf g17)]) (fun g17=>sY [⟨some g17,40,iY,10,true⟩]) 9 [2,3,6,7,8,9,10,12,13] (fun g17=>?_) (fun hd37=>?_)
     ·(try dsimp only);refine aI [2,6,7,10] ak rfl ⟨⟨_,rfl,?_⟩,⟨_,rfl,?_⟩,⟨_,rfl,?_⟩,⟨_,rfl,?_⟩,trivial⟩
      ·refine pq ?_;exact Nw hd26 g17 [0,1,2,3,4,5,6]
      ·refine ug ?_;exact Nw hd33 g17 [0,1,2,3,4,5,6]
      ·refine uf ?_;exact Nw hd31 g17 [0,1,2,3,4,5,6]
      ·refine Al 10 vV (fun g5=>?_);refine A1 ?_;exact Nw hd30 ⟨g5,g17⟩ [0,1,2,3,4,5,7,6]
     refine aC (nt:=127) (Z:=Nat) (fun g16=>sX [(7,bf g2),(8,bf g3),(9,aA ob 0 (bP A B (bn ia ib ic id s) ((ag A B).map ay)).length oc),(105,aA ob 0 (bP A B (bn ia ib ic id s) ((ag A B).map ay)).length oc),(106,.pointer (some ⟨g2,1,none⟩)),(109,aA ob 0 (bP A B (bn ia ib ic id s) ((ag A B).map ay)).length oc),(110,.pointer (some ⟨g2,1,none⟩)),(16,bf g16)]) (fun g16=>sY [⟨some g16,40,iY,10,true⟩]) 9 [2,3,6,7,8,9,11,12,13] (fun g16=>?_) (fun hd38=>?_)
     ·(try dsimp only);refine aI [2,6,7,11] ak rfl ⟨⟨_,rfl,?_⟩,⟨_,rfl,?_⟩,⟨_,rfl,?_⟩,⟨_,rfl,?_⟩,trivial⟩
      ·refine pq ?_;exact Nw hd27 g16 [0,1,2,3,4,5,6]
      ·refine ug ?_;exact Nw hd34 g16 [0,1,2,3,4,5,6]
      ·refine uf ?_;exact Nw hd32 g16 [0,1,2,3,4,5,6]
      ·refine Al 10 vV (fun g5=>?_);refine A1 ?_;exact Nw hd30 ⟨g16,g5⟩ [0,1,2,3,4,5,6,7]
     refine aC (nt:=127) (Z:=Unit) (fun _=>sX [(7,bf g2),(8,bf g3),(9,aA ob 0 (bP A B (bn ia ib ic id s) ((ag A B).map ay)).length oc),(105,aA ob 0 (bP A B (bn ia ib ic id s) ((ag A B).map ay)).length oc),(106,.pointer (some ⟨g2,1,none⟩)),(109,aA ob 0 (bP A B (bn ia ib ic id s) ((ag A B).map ay)).length oc),(110,.pointer (some ⟨g2,1,none⟩)),(112,Q ((1:Int):Rat))]) (fun _=>sY []) 9 [2,3,6,8,9,10,11,12,13] (fun z=>?_) (fun hd39=>?_)
     ·(try dsimp only);refine aI [2,6,10,11] ak rfl ⟨⟨_,rfl,?_⟩,⟨_,rfl,?_⟩,⟨_,rfl,?_⟩,⟨_,rfl,?_⟩,trivial⟩
      ·refine pq ?_;exact Nw hd28 () [0,1,2,3,4,5]
      ·refine ug ?_;exact Nw hd35 () [0,1,2,3,4,5]
      ·refine Al 10 vV (fun g4=>?_);refine A1 ?_;exact Nw hd32 g4 [0,1,2,3,4,5,6]
      ·refine Al 10 vV (fun g4=>?_);refine A1 ?_;exact Nw hd31 g4 [0,1,2,3,4,5,6]
     refine aC (nt:=127) (Z:=Unit) (fun _=>sX [(7,bf g2),(8,bf g3),(9,aA ob 0 (bP A B (bn ia ib ic id s) ((ag A B).map ay)).length oc),(105,aA ob 0 (bP A B (bn ia ib ic id s) ((ag A B).map ay)).length oc),(106,.pointer (some ⟨g2,1,none⟩)),(109,aA ob 0 (bP A B (bn ia ib ic id s) ((ag A B).map ay)).length oc),(111,RV (bG ((ag A B).map ay)))]) (fun _=>sY []) 9 [2,3,7,8,9,10,11,12,13] (fun z=>?_) (fun hd40=>?_)
     ·(try dsimp only);refine aI [2,7,10,11] ak rfl ⟨⟨_,rfl,?_⟩,⟨_,rfl,?_⟩,⟨_,rfl,?_⟩,⟨_,rfl,?_⟩,trivial⟩
      ·refine pq ?_;exact Nw hd29 () [0,1,2,3,4,5]
      ·refine uf ?_;exact Nw hd35 () [0,1,2,3,4,5]
      ·refine Al 10 vV (fun g4=>?_);refine A1 ?_;exact Nw hd34 g4 [0,1,2,3,4,5,6]
      ·refine Al 10 vV (fun g4=>?_);refine A1 ?_;exact Nw hd33 g4 [0,1,2,3,4,5,6]
     refine Nt 0 ?_;refine A2 ?_;refine Nt 1 ?_;refine Fg 0 1 ?_;refine A1 ?_;refine Nt 4 ?_;refine A2 ?_;refine Nt 5 ?_;refine Fg 0 1 ?_;refine A1 ?_;refine aI [2,6,7,10,11] ak rfl ⟨⟨_,rfl,?_⟩,⟨_,rfl,?_⟩,⟨_,rfl,?_⟩,⟨_,rfl,?_⟩,⟨_,rfl,?_⟩,trivial⟩
     ·refine pq ?_;exact Nw hd36 () [0,1,2,3,4,5]
     ·refine ug ?_;exact Nw hd40 () [0,1,2,3,4,5]
     ·refine uf ?_;exact Nw hd39 () [0,1,2,3,4,5]
     ·refine Al 10 vV (fun g4=>?_);refine A1 ?_;exact Nw hd38 g4 [0,1,2,3,4,5,6]
     ·refine Al 10 vV (fun g4=>?_);refine A1 ?_;exact Nw hd37 g4 [0,1,2,3,4,5,6]
    rintro⟨g16,g17⟩;show At _ ⟨127,[(5,aA ub 0 A.length uc),(6,aA vb 0 B.length vc),(16,bf g16),(17,bf g17)],[⟨ub,100,aj aP A,uN,true⟩,⟨vb,100,aj aP B,vN,true⟩,⟨wb,63,aj aZ ((ag A B).map ay),wN,true⟩,⟨some g2,40,iE (aA wb 0 ((ag A B).map ay).length wc) (bG ((ag A B).map ay)),10,true⟩,⟨some g3,38,jX (bn ia ib ic id s),9,true⟩,⟨ob,63,aj aZ (bP A B (bn ia ib ic id s) ((ag A B).map ay)),oN,true⟩,⟨some g16,40,iE (aA ob 0 (bP A B (bn ia ib ic id s) ((ag A B).map ay)).length oc) (bG ((ag A B).map ay)),10,true⟩,⟨some g17,40,iE (aA ob 0 (bP A B (bn ia ib ic id s) ((ag A B).map ay)).length oc) ⟨(bG ((ag A B).map ay)).p+((1:Int):Rat),(bG ((ag A B).map ay)).r,(bG ((ag A B).map ay)).n⟩,10,true⟩]⟩ _;refine A5 ?_;refine XM 6 0 ?_;refine(Sd [0,1,5]) (qmi F (Gw ..) (JZ ..) ub uN uc huc vb vN vc hvc ob oN oc h3 (bG ((ag A B).map ay)) (Nat.le_trans F.mostz ae) (F.good (Gw ..) hw1)) ?_;refine A1 ?_;refine aS 119 (.bool true) rfl (congrArg Value.bool ax) ?_;refine A3 ?_;refine XM 7 0 ?_;refine(Sd [0,1,5]) (qmi F (Gw ..) (JZ ..) ub uN uc huc vb vN vc hvc ob oN oc h3 ⟨(bG ((ag A B).map ay)).p+((1:Int):Rat),(bG ((ag A B).map ay)).r,(bG ((ag A B).map ay)).n⟩ (F.movedz (Nat.le_trans (lh ae ae) ae)) (F.bad (Gw ..) hw1)) ?_;refine A1 ?_;refine aS 125 (.bool true) rfl (congrArg Value.bool ax) ?_;refine A5 ?_;refine aO rfl (au rfl) (fun w hL=>⟨(),?_,hL.pk []⟩);exact rfl
end Go.Proofs.YtaffcpfhedadhaaGreatDoor
