/-
  Part 22 (chapter 32): lemmas, walks. Each theorem states its own conditions.
-/
import Derived.Lib.Repeat
import Derived.Sort.Grow
import Derived.Sort.EncStr
import Derived.Shelf.SlSortCmp.WholeK
import Derived.Shelf.SlSortCmp.NoneTotal
import Derived.Test.YtaffcpfhedadhaaGreatDoorA19
import Derived.Test.YtaffcpfhedadhaaGreatDoorA21
set_option linter.all false
set_option maxRecDepth 20000
set_option maxHeartbeats 20000000
section
variable{P Q:Prop}{T:Type}{R:T->Prop}
def Zo(h:P:=by rw[h.len];exact Nat.le_refl _):=h
def Zp(h:P:=by rw[h.len,Nat.succ_mul,Nat.add_comm]):=h
end
namespace Go.Via
open Go
def gU(x y:Rl):Rl:=if 0<bQ y x then y else x
def bJ:List ny->Rl
 |[]=>rl 0
 |p::l=>(p::l).foldl (fun o x=>gU o (gU x.a x.b)) p.a
def AU(o:Rl)(x:ny):Rl:=gU (gU o x.a) x.b
def fO(l:List ny):Rl:=l.foldl AU (rl 0)
theorem ru(p q:Rat):gU (rl p) (rl q)=rl (if p<q then q else p):=by
 unfold gU;rw[QR];rcases FB q p with⟨c,e⟩|⟨c,e⟩|⟨c,e⟩<;>rw[e]
 ·rw[if_neg ax,if_neg kN]
 ·rw[if_pos ax,if_pos c]
 ·rw[if_neg ax,if_neg kN]
def qbK(l:List ny):Prop:=∀p∈l,∃u v:Rat,0<=u∧0<=v∧p.a=rl u∧p.b=rl v
def UZ(p q:Rat):Rat:=if p<q then q else p
def WZ{l:List ny}(h:qbK l)(hne:l≠[]):bJ l=fO l:=by
 have step1:∀(l:List ny) (q:Rat),qbK l->∃r,l.foldl (fun o x=>gU o (gU x.a x.b)) (rl q)=rl r∧l.foldl AU (rl q)=rl r:=by
  intro l
  induction l with
  |nil=>intro q _;exact⟨q,rfl,rfl⟩
  |cons p l ih=>
   intro q h;obtain⟨u,v,hu,hv,ea,eb⟩:=h p (List.mem_cons_self ..);obtain⟨r,h1,h2⟩:=ih (UZ (UZ q u) v) fun x hx=>h x (List.mem_cons_of_mem _ hx)
   refine⟨r,?_,?_⟩
   ·rw[List.foldl_cons,ea,eb,ru,ru,<-h1]
    congr 2
    unfold UZ;grind
   ·rw[List.foldl_cons,<-h2];unfold AU;rw[ea,eb,ru,ru]
    rfl
 cases l with
 |nil=>exact absurd rfl hne
 |cons p l=>
  obtain⟨u,v,hu,hv,ea,eb⟩:=h p (List.mem_cons_self ..);show(p::l).foldl (fun o x=>gU o (gU x.a x.b)) p.a=(p::l).foldl AU (rl 0);rw[List.foldl_cons,List.foldl_cons];have e1:gU p.a (gU p.a p.b)=rl (UZ u v):=by
   rw[ea,eb,ru,ru];congr 1;unfold UZ;grind
  have e2:AU (rl 0) p=rl (UZ u v):=by
   unfold AU;rw[ea,eb,ru,ru];congr 1;unfold UZ;grind
  rw[e1,e2];obtain⟨r,h1,h2⟩:=step1 l (UZ u v) fun x hx=>h x (List.mem_cons_of_mem _ hx)
  rw[h1,h2]
def qry(x:Rl):Prop:=∃q,x=rl q
theorem qbL{S:Rl->Prop}{ρ:Rl->Int}(T:fF S ρ){a b:Iv}(ha:S a.f∧S a.t)(hb:S b.f∧S b.t):fC a b=fC b a:=by
 have h1:=Ls T ha.1 hb.1;have h2:=Ls T hb.1 ha.1;have h3:=Lt T ha.2 hb.2;have h4:=Lt T hb.2 ha.2;have inj:∀{x y:qB},S x.1->S y.1->aW ρ x=aW ρ y->x=y:=fun hx hy h=>Zk T hx hy h
 have e1:(fC a b).b=(fC b a).b:=by
  rcases h1 with⟨e,k⟩|⟨e,k⟩<;>rcases h2 with⟨e',k'⟩|⟨e',k'⟩<;>rw[e,e']
  ·exact inj ha.1 hb.1 ae
  ·exact inj hb.1 ha.1 ae
 have e2:(fC a b).e=(fC b a).e:=by
  rcases h3 with⟨e,k⟩|⟨e,k⟩<;>rcases h4 with⟨e',k'⟩|⟨e',k'⟩<;>rw[e,e']
  ·exact inj ha.2 hb.2 ae
  ·exact inj hb.2 ha.2 ae
 rw[<-WY (fC a b),e1,e2,WY]
def W9{S:Rl->Prop}{ρ:Rl->Int}(T:fF S ρ){a b:List PU}(sa:pV ρ a)(sb:pV ρ b)(ea:Ends S a)(eb:Ends S b):aj a b=aj b a:=by
 rw[ku T sa sb ea eb,ku T sb sa eb ea];obtain⟨a1,a2⟩:=uS T sb eb sa ea;obtain⟨b1,b2⟩:=uS T sa ea sb eb;have lt:∀{c d:List PU},Ends S c->Ends S d->(flatK rZ c d).Pairwise (fun p q=>aW ρ p.1.e<=aW ρ q.1.b)->(∀z∈flatK rZ c d,∃x∈c,∃y∈d,rZ x y=some z)->(flatK rZ c d).Pairwise (fun p q=>aW ρ p.1.b<aW ρ q.1.b):=fun {c d} hc hd h1 h2=>by
  refine h1.imp_of_mem fun {p q} hp hq hpq=>?_
  obtain⟨x,hx,y,hy,hm⟩:=h2 p hp;have:=uQ T (hc x hx) (hd y hy) hm;omega
 refine yA (κ:=fun p:Iv×Qd=>aW ρ p.1.b) (lt ea eb a1 a2) (lt eb ea b1 b2) fun z=>?_
 have sw:∀{c d:List PU},Ends S c->Ends S d->(∀z∈flatK rZ c d,∃x∈c,∃y∈d,rZ x y=some z)->z∈flatK rZ c d->z∈flatK rZ d c:=fun {c d} hc hd h2 hz=>by
  obtain⟨x,hx,y,hy,hm⟩:=h2 z hz;refine List.mem_flatMap.2 ⟨y,hy,List.mem_filterMap.2 ⟨x,hx,?_⟩⟩;rw[<-hm];unfold rZ dB;rw[qbL T (hd y hy) (hc x hx),qjc]
 exact⟨sw ea eb a2,sw eb ea b2⟩
end Go.Via
namespace Go.Via
open Go
structure B3 where
 i:Iv
 f:Ln
 g:Ln
def je(x:Rl):List Value:=[.bool (decide (x.p.num<0)),.string (bP x.p.num.natAbs),.bool false,.string (dm x.p),.bool (decide (x.r.num<0)),.string (bP x.r.num.natAbs),.bool false,.string (dm x.r),.bool x.n]
def RV(x:Rl):Value:= .agg #[.bool (decide (x.p.num<0)),.string (bP x.p.num.natAbs),.bool false,.string (dm x.p),.bool (decide (x.r.num<0)),.string (bP x.r.num.natAbs),.bool false,.string (dm x.r),.bool x.n]
def aO(x:Iv):List Value:=[.bool (decide (x.f.p.num<0)),.string (bP x.f.p.num.natAbs),.bool false,.string (dm x.f.p),.bool (decide (x.f.r.num<0)),.string (bP x.f.r.num.natAbs),.bool false,.string (dm x.f.r),.bool x.f.n,.bool (decide (x.t.p.num<0)),.string (bP x.t.p.num.natAbs),.bool false,.string (dm x.t.p),.bool (decide (x.t.r.num<0)),.string (bP x.t.r.num.natAbs),.bool false,.string (dm x.t.r),.bool x.t.n,.bool x.fo,.bool x.tp]
def fV(x:Iv):Value:= .agg #[.bool (decide (x.f.p.num<0)),.string (bP x.f.p.num.natAbs),.bool false,.string (dm x.f.p),.bool (decide (x.f.r.num<0)),.string (bP x.f.r.num.natAbs),.bool false,.string (dm x.f.r),.bool x.f.n,.bool (decide (x.t.p.num<0)),.string (bP x.t.p.num.natAbs),.bool false,.string (dm x.t.p),.bool (decide (x.t.r.num<0)),.string (bP x.t.r.num.natAbs),.bool false,.string (dm x.t.r),.bool x.t.n,.bool x.fo,.bool x.tp]
def qjd(x:Qd):List Value:=[.bool (decide (x.c0.num<0)),.string (bP x.c0.num.natAbs),.bool false,.string (dm x.c0),.bool (decide (x.c1.num<0)),.string (bP x.c1.num.natAbs),.bool false,.string (dm x.c1),.bool (decide (x.c2.num<0)),.string (bP x.c2.num.natAbs),.bool false,.string (dm x.c2)]
def qp(x:Qd):Value:= .agg #[.bool (decide (x.c0.num<0)),.string (bP x.c0.num.natAbs),.bool false,.string (dm x.c0),.bool (decide (x.c1.num<0)),.string (bP x.c1.num.natAbs),.bool false,.string (dm x.c1),.bool (decide (x.c2.num<0)),.string (bP x.c2.num.natAbs),.bool false,.string (dm x.c2)]
def yV(x:Ln):Value:= .agg #[.bool (decide (x.x0.num<0)),.string (bP x.x0.num.natAbs),.bool false,.string (dm x.x0),.bool (decide (x.x1.num<0)),.string (bP x.x1.num.natAbs),.bool false,.string (dm x.x1),.bool (decide (x.y0.num<0)),.string (bP x.y0.num.natAbs),.bool false,.string (dm x.y0),.bool (decide (x.y1.num<0)),.string (bP x.y1.num.natAbs),.bool false,.string (dm x.y1)]
def aB(x:PU):List Value:=[.bool (decide (x.i.f.p.num<0)),.string (bP x.i.f.p.num.natAbs),.bool false,.string (dm x.i.f.p),.bool (decide (x.i.f.r.num<0)),.string (bP x.i.f.r.num.natAbs),.bool false,.string (dm x.i.f.r),.bool x.i.f.n,.bool (decide (x.i.t.p.num<0)),.string (bP x.i.t.p.num.natAbs),.bool false,.string (dm x.i.t.p),.bool (decide (x.i.t.r.num<0)),.string (bP x.i.t.r.num.natAbs),.bool false,.string (dm x.i.t.r),.bool x.i.t.n,.bool x.i.fo,.bool x.i.tp,.bool (decide (x.f.x0.num<0)),.string (bP x.f.x0.num.natAbs),.bool false,.string (dm x.f.x0),.bool (decide (x.f.x1.num<0)),.string (bP x.f.x1.num.natAbs),.bool false,.string (dm x.f.x1),.bool (decide (x.f.y0.num<0)),.string (bP x.f.y0.num.natAbs),.bool false,.string (dm x.f.y0),.bool (decide (x.f.y1.num<0)),.string (bP x.f.y1.num.natAbs),.bool false,.string (dm x.f.y1)]
def PUV(x:PU):Value:= .agg #[.bool (decide (x.i.f.p.num<0)),.string (bP x.i.f.p.num.natAbs),.bool false,.string (dm x.i.f.p),.bool (decide (x.i.f.r.num<0)),.string (bP x.i.f.r.num.natAbs),.bool false,.string (dm x.i.f.r),.bool x.i.f.n,.bool (decide (x.i.t.p.num<0)),.string (bP x.i.t.p.num.natAbs),.bool false,.string (dm x.i.t.p),.bool (decide (x.i.t.r.num<0)),.string (bP x.i.t.r.num.natAbs),.bool false,.string (dm x.i.t.r),.bool x.i.t.n,.bool x.i.fo,.bool x.i.tp,.bool (decide (x.f.x0.num<0)),.string (bP x.f.x0.num.natAbs),.bool false,.string (dm x.f.x0),.bool (decide (x.f.x1.num<0)),.string (bP x.f.x1.num.natAbs),.bool false,.string (dm x.f.x1),.bool (decide (x.f.y0.num<0)),.string (bP x.f.y0.num.natAbs),.bool false,.string (dm x.f.y0),.bool (decide (x.f.y1.num<0)),.string (bP x.f.y1.num.natAbs),.bool false,.string (dm x.f.y1)]
def aQ(x:ny):List Value:=[.bool (decide (x.i.f.p.num<0)),.string (bP x.i.f.p.num.natAbs),.bool false,.string (dm x.i.f.p),.bool (decide (x.i.f.r.num<0)),.string (bP x.i.f.r.num.natAbs),.bool false,.string (dm x.i.f.r),.bool x.i.f.n,.bool (decide (x.i.t.p.num<0)),.string (bP x.i.t.p.num.natAbs),.bool false,.string (dm x.i.t.p),.bool (decide (x.i.t.r.num<0)),.string (bP x.i.t.r.num.natAbs),.bool false,.string (dm x.i.t.r),.bool x.i.t.n,.bool x.i.fo,.bool x.i.tp,.bool (decide (x.a.p.num<0)),.string (bP x.a.p.num.natAbs),.bool false,.string (dm x.a.p),.bool (decide (x.a.r.num<0)),.string (bP x.a.r.num.natAbs),.bool false,.string (dm x.a.r),.bool x.a.n,.bool (decide (x.b.p.num<0)),.string (bP x.b.p.num.natAbs),.bool false,.string (dm x.b.p),.bool (decide (x.b.r.num<0)),.string (bP x.b.r.num.natAbs),.bool false,.string (dm x.b.r),.bool x.b.n]
def Gy(x:ny):Value:= .agg #[.bool (decide (x.i.f.p.num<0)),.string (bP x.i.f.p.num.natAbs),.bool false,.string (dm x.i.f.p),.bool (decide (x.i.f.r.num<0)),.string (bP x.i.f.r.num.natAbs),.bool false,.string (dm x.i.f.r),.bool x.i.f.n,.bool (decide (x.i.t.p.num<0)),.string (bP x.i.t.p.num.natAbs),.bool false,.string (dm x.i.t.p),.bool (decide (x.i.t.r.num<0)),.string (bP x.i.t.r.num.natAbs),.bool false,.string (dm x.i.t.r),.bool x.i.t.n,.bool x.i.fo,.bool x.i.tp,.bool (decide (x.a.p.num<0)),.string (bP x.a.p.num.natAbs),.bool false,.string (dm x.a.p),.bool (decide (x.a.r.num<0)),.string (bP x.a.r.num.natAbs),.bool false,.string (dm x.a.r),.bool x.a.n,.bool (decide (x.b.p.num<0)),.string (bP x.b.p.num.natAbs),.bool false,.string (dm x.b.p),.bool (decide (x.b.r.num<0)),.string (bP x.b.r.num.natAbs),.bool false,.string (dm x.b.r),.bool x.b.n]
def uh(x:Iv×Qd):List Value:=[.bool (decide (x.1.f.p.num<0)),.string (bP x.1.f.p.num.natAbs),.bool false,.string (dm x.1.f.p),.bool (decide (x.1.f.r.num<0)),.string (bP x.1.f.r.num.natAbs),.bool false,.string (dm x.1.f.r),.bool x.1.f.n,.bool (decide (x.1.t.p.num<0)),.string (bP x.1.t.p.num.natAbs),.bool false,.string (dm x.1.t.p),.bool (decide (x.1.t.r.num<0)),.string (bP x.1.t.r.num.natAbs),.bool false,.string (dm x.1.t.r),.bool x.1.t.n,.bool x.1.fo,.bool x.1.tp,.bool (decide (x.2.c0.num<0)),.string (bP x.2.c0.num.natAbs),.bool false,.string (dm x.2.c0),.bool (decide (x.2.c1.num<0)),.string (bP x.2.c1.num.natAbs),.bool false,.string (dm x.2.c1),.bool (decide (x.2.c2.num<0)),.string (bP x.2.c2.num.natAbs),.bool false,.string (dm x.2.c2)]
def PtV(x:Iv×Qd):Value:= .agg #[.bool (decide (x.1.f.p.num<0)),.string (bP x.1.f.p.num.natAbs),.bool false,.string (dm x.1.f.p),.bool (decide (x.1.f.r.num<0)),.string (bP x.1.f.r.num.natAbs),.bool false,.string (dm x.1.f.r),.bool x.1.f.n,.bool (decide (x.1.t.p.num<0)),.string (bP x.1.t.p.num.natAbs),.bool false,.string (dm x.1.t.p),.bool (decide (x.1.t.r.num<0)),.string (bP x.1.t.r.num.natAbs),.bool false,.string (dm x.1.t.r),.bool x.1.t.n,.bool x.1.fo,.bool x.1.tp,.bool (decide (x.2.c0.num<0)),.string (bP x.2.c0.num.natAbs),.bool false,.string (dm x.2.c0),.bool (decide (x.2.c1.num<0)),.string (bP x.2.c1.num.natAbs),.bool false,.string (dm x.2.c1),.bool (decide (x.2.c2.num<0)),.string (bP x.2.c2.num.natAbs),.bool false,.string (dm x.2.c2)]
def Xa(x:B3):List Value:=[.bool (decide (x.i.f.p.num<0)),.string (bP x.i.f.p.num.natAbs),.bool false,.string (dm x.i.f.p),.bool (decide (x.i.f.r.num<0)),.string (bP x.i.f.r.num.natAbs),.bool false,.string (dm x.i.f.r),.bool x.i.f.n,.bool (decide (x.i.t.p.num<0)),.string (bP x.i.t.p.num.natAbs),.bool false,.string (dm x.i.t.p),.bool (decide (x.i.t.r.num<0)),.string (bP x.i.t.r.num.natAbs),.bool false,.string (dm x.i.t.r),.bool x.i.t.n,.bool x.i.fo,.bool x.i.tp,.bool (decide (x.f.x0.num<0)),.string (bP x.f.x0.num.natAbs),.bool false,.string (dm x.f.x0),.bool (decide (x.f.x1.num<0)),.string (bP x.f.x1.num.natAbs),.bool false,.string (dm x.f.x1),.bool (decide (x.f.y0.num<0)),.string (bP x.f.y0.num.natAbs),.bool false,.string (dm x.f.y0),.bool (decide (x.f.y1.num<0)),.string (bP x.f.y1.num.natAbs),.bool false,.string (dm x.f.y1),.bool (decide (x.g.x0.num<0)),.string (bP x.g.x0.num.natAbs),.bool false,.string (dm x.g.x0),.bool (decide (x.g.x1.num<0)),.string (bP x.g.x1.num.natAbs),.bool false,.string (dm x.g.x1),.bool (decide (x.g.y0.num<0)),.string (bP x.g.y0.num.natAbs),.bool false,.string (dm x.g.y0),.bool (decide (x.g.y1.num<0)),.string (bP x.g.y1.num.natAbs),.bool false,.string (dm x.g.y1)]
def B3V(x:B3):Value:= .agg #[.bool (decide (x.i.f.p.num<0)),.string (bP x.i.f.p.num.natAbs),.bool false,.string (dm x.i.f.p),.bool (decide (x.i.f.r.num<0)),.string (bP x.i.f.r.num.natAbs),.bool false,.string (dm x.i.f.r),.bool x.i.f.n,.bool (decide (x.i.t.p.num<0)),.string (bP x.i.t.p.num.natAbs),.bool false,.string (dm x.i.t.p),.bool (decide (x.i.t.r.num<0)),.string (bP x.i.t.r.num.natAbs),.bool false,.string (dm x.i.t.r),.bool x.i.t.n,.bool x.i.fo,.bool x.i.tp,.bool (decide (x.f.x0.num<0)),.string (bP x.f.x0.num.natAbs),.bool false,.string (dm x.f.x0),.bool (decide (x.f.x1.num<0)),.string (bP x.f.x1.num.natAbs),.bool false,.string (dm x.f.x1),.bool (decide (x.f.y0.num<0)),.string (bP x.f.y0.num.natAbs),.bool false,.string (dm x.f.y0),.bool (decide (x.f.y1.num<0)),.string (bP x.f.y1.num.natAbs),.bool false,.string (dm x.f.y1),.bool (decide (x.g.x0.num<0)),.string (bP x.g.x0.num.natAbs),.bool false,.string (dm x.g.x0),.bool (decide (x.g.x1.num<0)),.string (bP x.g.x1.num.natAbs),.bool false,.string (dm x.g.x1),.bool (decide (x.g.y0.num<0)),.string (bP x.g.y0.num.natAbs),.bool false,.string (dm x.g.y0),.bool (decide (x.g.y1.num<0)),.string (bP x.g.y1.num.natAbs),.bool false,.string (dm x.g.y1)]
def FN(x:Iv×Int):List Value:=[.bool (decide (x.1.f.p.num<0)),.string (bP x.1.f.p.num.natAbs),.bool false,.string (dm x.1.f.p),.bool (decide (x.1.f.r.num<0)),.string (bP x.1.f.r.num.natAbs),.bool false,.string (dm x.1.f.r),.bool x.1.f.n,.bool (decide (x.1.t.p.num<0)),.string (bP x.1.t.p.num.natAbs),.bool false,.string (dm x.1.t.p),.bool (decide (x.1.t.r.num<0)),.string (bP x.1.t.r.num.natAbs),.bool false,.string (dm x.1.t.r),.bool x.1.t.n,.bool x.1.fo,.bool x.1.tp,.int .i64 x.2]
def SgV(x:Iv×Int):Value:= .agg #[.bool (decide (x.1.f.p.num<0)),.string (bP x.1.f.p.num.natAbs),.bool false,.string (dm x.1.f.p),.bool (decide (x.1.f.r.num<0)),.string (bP x.1.f.r.num.natAbs),.bool false,.string (dm x.1.f.r),.bool x.1.f.n,.bool (decide (x.1.t.p.num<0)),.string (bP x.1.t.p.num.natAbs),.bool false,.string (dm x.1.t.p),.bool (decide (x.1.t.r.num<0)),.string (bP x.1.t.r.num.natAbs),.bool false,.string (dm x.1.t.r),.bool x.1.t.n,.bool x.1.fo,.bool x.1.tp,.int .i64 x.2]
def wX(x:Rl×Bool):List Value:=[.bool (decide (x.1.p.num<0)),.string (bP x.1.p.num.natAbs),.bool false,.string (dm x.1.p),.bool (decide (x.1.r.num<0)),.string (bP x.1.r.num.natAbs),.bool false,.string (dm x.1.r),.bool x.1.n,.bool x.2]
def BdV(x:Rl×Bool):Value:= .agg #[.bool (decide (x.1.p.num<0)),.string (bP x.1.p.num.natAbs),.bool false,.string (dm x.1.p),.bool (decide (x.1.r.num<0)),.string (bP x.1.r.num.natAbs),.bool false,.string (dm x.1.r),.bool x.1.n,.bool x.2]
def kw(x:(Rl×Bool)×Int×Int):List Value:=[.bool (decide (x.1.1.p.num<0)),.string (bP x.1.1.p.num.natAbs),.bool false,.string (dm x.1.1.p),.bool (decide (x.1.1.r.num<0)),.string (bP x.1.1.r.num.natAbs),.bool false,.string (dm x.1.1.r),.bool x.1.1.n,.bool x.1.2,.int .i64 x.2.1,.int .i64 x.2.2]
def EvV(x:(Rl×Bool)×Int×Int):Value:= .agg #[.bool (decide (x.1.1.p.num<0)),.string (bP x.1.1.p.num.natAbs),.bool false,.string (dm x.1.1.p),.bool (decide (x.1.1.r.num<0)),.string (bP x.1.1.r.num.natAbs),.bool false,.string (dm x.1.1.r),.bool x.1.1.n,.bool x.1.2,.int .i64 x.2.1,.int .i64 x.2.2]
end Go.Via
namespace Go.Proofs.YtaffcpfhedadhaaGreatDoor
open Go Go.Via
def FO(d:Nat)(p q:Rat)(w:World):(Op.equalIn (d+4) 36 (Q p) (Q q)).run Tryz.prog w= .ok (decide (p=q)) w:=by
 have h1:=qoH p q;rw[<-h1]
 clear h1
 unfold Q
 generalize decide (p.num<0)=a1,bP p.num.natAbs=a3,dm p=a5
 generalize decide (q.num<0)=b1,bP q.num.natAbs=b3,dm q=b5
 simp only[beq_toListBytes];simp[go_sem]
 (repeat' split)<;>simp_all
def U0(d:Nat)(x y:Rl)(w:World):(Op.equalIn (d+5) 38 (RV x) (RV y)).run Tryz.prog w= .ok (decide (x=y)) w:=by
 have e:decide (x=y)=(decide (x.p=y.p)&&(decide (x.r=y.r)&&((x.n==y.n)&&true))):=by
  rw[Bool.eq_iff_iff];cases x;cases y;simp[Bool.and_assoc]
 rw[e];have hf:∃f0 f1 f2:Field,(Tryz.prog.fieldsOf 38).toList=[f0,f1,f2]∧f0.name≠ "_" ∧f1.name≠ "_" ∧f2.name≠ "_" ∧f0.type=36∧f1.type=36∧f2.type=4∧f0.offset=0∧f1.offset=4∧f2.offset=8:=⟨⟨"P",36,0,false,"","",0⟩,⟨"R",36,4,false,"","",48⟩,⟨"Neg",4,8,false,"","",96⟩,ak,ax,ax,ax,rfl,rfl,rfl,rfl,rfl,rfl⟩;obtain⟨f0,f1,f2,h0,n0,n1,n2,t0,t1,t2,o0,o1,o2⟩:=hf;unfold RV;rw[run_equalIn_struct w (d+4) 38 _ _ ak ak,h0];have ia4:(isAgg 4).run Tryz.prog w= .ok false w:=ak
 have ia36:(isAgg 36).run Tryz.prog w= .ok true w:=ak;have so36:(sizeOf 36).run Tryz.prog w= .ok 4 w:=ak;refine mX (T:=36) n0 (x:=Q x.p) (y:=Q y.p) ?_ ?_ ?_ (mX (T:=36) n1 (x:=Q x.r) (y:=Q y.r) ?_ ?_ ?_ (mX (T:=4) n2 (x:= .bool x.n) (y:= .bool y.n) ?_ ?_ ?_ rfl))
 ·rw[t0,o0];simp[part,ia36,so36];rfl
 ·rw[t0,o0];simp[part,ia36,so36];rfl
 ·rw[t0];exact FO (d+0) _ _ w
 ·rw[t1,o1];simp[part,ia36,so36];rfl
 ·rw[t1,o1];simp[part,ia36,so36];rfl
 ·rw[t1];exact FO (d+0) _ _ w
 ·rw[t2,o2];simp[part,ia4]
 ·rw[t2,o2];simp[part,ia4]
 ·rw[t2];simp[go_sem]
def qpl(x y:Rl)(w:World):(Op.equalIn 10000 38 (RV x) (RV y)).run Tryz.prog w= .ok (decide (x=y)) w:=U0 9995 x y w
def qkO(d:Nat)(x y:Iv)(w:World):(Op.equalIn (d+6) 61 (fV x) (fV y)).run Tryz.prog w= .ok (decide (x=y)) w:=by
 have e:decide (x=y)=(decide (x.f=y.f)&&(decide (x.t=y.t)&&((x.fo==y.fo)&&((x.tp==y.tp)&&true)))):=by
  rw[Bool.eq_iff_iff];cases x;cases y;simp[Bool.and_assoc]
 rw[e];have hf:∃f0 f1 f2 f3:Field,(Tryz.prog.fieldsOf 61).toList=[f0,f1,f2,f3]∧f0.name≠ "_" ∧f1.name≠ "_" ∧f2.name≠ "_" ∧f3.name≠ "_" ∧f0.type=38∧f1.type=38∧f2.type=4∧f3.type=4∧f0.offset=0∧f1.offset=9∧f2.offset=18∧f3.offset=19:=⟨⟨"From",38,0,false,"","",0⟩,⟨"To",38,9,false,"","",104⟩,⟨"OpenFrom",4,18,false,"","",208⟩,⟨"OpenTo",4,19,false,"","",209⟩,ak,ax,ax,ax,ax,rfl,rfl,rfl,rfl,rfl,rfl,rfl,rfl⟩;obtain⟨f0,f1,f2,f3,h0,n0,n1,n2,n3,t0,t1,t2,t3,o0,o1,o2,o3⟩:=hf;unfold fV;rw[run_equalIn_struct w (d+5) 61 _ _ ak ak,h0];have ia4:(isAgg 4).run Tryz.prog w= .ok false w:=ak
 have ia38:(isAgg 38).run Tryz.prog w= .ok true w:=ak;have so38:(sizeOf 38).run Tryz.prog w= .ok 9 w:=ak;refine mX (T:=38) n0 (x:=RV x.f) (y:=RV y.f) ?_ ?_ ?_ (mX (T:=38) n1 (x:=RV x.t) (y:=RV y.t) ?_ ?_ ?_ (mX (T:=4) n2 (x:= .bool x.fo) (y:= .bool y.fo) ?_ ?_ ?_ (mX (T:=4) n3 (x:= .bool x.tp) (y:= .bool y.tp) ?_ ?_ ?_ rfl)))
 ·rw[t0,o0];simp[part,ia38,so38];rfl
 ·rw[t0,o0];simp[part,ia38,so38];rfl
 ·rw[t0];exact U0 (d+0) _ _ w
 ·rw[t1,o1];simp[part,ia38,so38];rfl
 ·rw[t1,o1];simp[part,ia38,so38];rfl
 ·rw[t1];exact U0 (d+0) _ _ w
 ·rw[t2,o2];simp[part,ia4]
 ·rw[t2,o2];simp[part,ia4]
 ·rw[t2];simp[go_sem]
 ·rw[t3,o3];simp[part,ia4]
 ·rw[t3,o3];simp[part,ia4]
 ·rw[t3];simp[go_sem]
def qpm(x y:Iv)(w:World):(Op.equalIn 10000 61 (fV x) (fV y)).run Tryz.prog w= .ok (decide (x=y)) w:=qkO 9994 x y w
def qpn(d:Nat)(x y:Qd)(w:World):(Op.equalIn (d+5) 91 (qp x) (qp y)).run Tryz.prog w= .ok (decide (x=y)) w:=by
 have e:decide (x=y)=(decide (x.c0=y.c0)&&(decide (x.c1=y.c1)&&(decide (x.c2=y.c2)&&true))):=by
  rw[Bool.eq_iff_iff];cases x;cases y;simp[Bool.and_assoc]
 rw[e];have hf:∃f0 f1 f2:Field,(Tryz.prog.fieldsOf 91).toList=[f0,f1,f2]∧f0.name≠ "_" ∧f1.name≠ "_" ∧f2.name≠ "_" ∧f0.type=36∧f1.type=36∧f2.type=36∧f0.offset=0∧f1.offset=4∧f2.offset=8:=⟨⟨"C0",36,0,false,"","",0⟩,⟨"C1",36,4,false,"","",48⟩,⟨"C2",36,8,false,"","",96⟩,ak,ax,ax,ax,rfl,rfl,rfl,rfl,rfl,rfl⟩;obtain⟨f0,f1,f2,h0,n0,n1,n2,t0,t1,t2,o0,o1,o2⟩:=hf;unfold qp;rw[run_equalIn_struct w (d+4) 91 _ _ ak ak,h0];have ia36:(isAgg 36).run Tryz.prog w= .ok true w:=ak
 have so36:(sizeOf 36).run Tryz.prog w= .ok 4 w:=ak;refine mX (T:=36) n0 (x:=Q x.c0) (y:=Q y.c0) ?_ ?_ ?_ (mX (T:=36) n1 (x:=Q x.c1) (y:=Q y.c1) ?_ ?_ ?_ (mX (T:=36) n2 (x:=Q x.c2) (y:=Q y.c2) ?_ ?_ ?_ rfl))
 ·rw[t0,o0];simp[part,ia36,so36];rfl
 ·rw[t0,o0];simp[part,ia36,so36];rfl
 ·rw[t0];exact FO (d+0) _ _ w
 ·rw[t1,o1];simp[part,ia36,so36];rfl
 ·rw[t1,o1];simp[part,ia36,so36];rfl
 ·rw[t1];exact FO (d+0) _ _ w
 ·rw[t2,o2];simp[part,ia36,so36];rfl
 ·rw[t2,o2];simp[part,ia36,so36];rfl
 ·rw[t2];exact FO (d+0) _ _ w
def qrz(x y:Qd)(w:World):(Op.equalIn 10000 91 (qp x) (qp y)).run Tryz.prog w= .ok (decide (x=y)) w:=qpn 9995 x y w
def qpo(d:Nat)(x y:Ln)(w:World):(Op.equalIn (d+5) 98 (yV x) (yV y)).run Tryz.prog w= .ok (decide (x=y)) w:=by
 have e:decide (x=y)=(decide (x.x0=y.x0)&&(decide (x.x1=y.x1)&&(decide (x.y0=y.y0)&&(decide (x.y1=y.y1)&&true)))):=by
  rw[Bool.eq_iff_iff];cases x;cases y;simp[Bool.and_assoc]
 rw[e];have hf:∃f0 f1 f2 f3:Field,(Tryz.prog.fieldsOf 98).toList=[f0,f1,f2,f3]∧f0.name≠ "_" ∧f1.name≠ "_" ∧f2.name≠ "_" ∧f3.name≠ "_" ∧f0.type=36∧f1.type=36∧f2.type=36∧f3.type=36∧f0.offset=0∧f1.offset=4∧f2.offset=8∧f3.offset=12:=⟨⟨"X0",36,0,false,"","",0⟩,⟨"X1",36,4,false,"","",48⟩,⟨"Y0",36,8,false,"","",96⟩,⟨"Y1",36,12,false,"","",144⟩,ak,ax,ax,ax,ax,rfl,rfl,rfl,rfl,rfl,rfl,rfl,rfl⟩;obtain⟨f0,f1,f2,f3,h0,n0,n1,n2,n3,t0,t1,t2,t3,o0,o1,o2,o3⟩:=hf;unfold yV;rw[run_equalIn_struct w (d+4) 98 _ _ ak ak,h0];have ia36:(isAgg 36).run Tryz.prog w= .ok true w:=ak
 have so36:(sizeOf 36).run Tryz.prog w= .ok 4 w:=ak;refine mX (T:=36) n0 (x:=Q x.x0) (y:=Q y.x0) ?_ ?_ ?_ (mX (T:=36) n1 (x:=Q x.x1) (y:=Q y.x1) ?_ ?_ ?_ (mX (T:=36) n2 (x:=Q x.y0) (y:=Q y.y0) ?_ ?_ ?_ (mX (T:=36) n3 (x:=Q x.y1) (y:=Q y.y1) ?_ ?_ ?_ rfl)))
 ·rw[t0,o0];simp[part,ia36,so36];rfl
 ·rw[t0,o0];simp[part,ia36,so36];rfl
 ·rw[t0];exact FO (d+0) _ _ w
 ·rw[t1,o1];simp[part,ia36,so36];rfl
 ·rw[t1,o1];simp[part,ia36,so36];rfl
 ·rw[t1];exact FO (d+0) _ _ w
 ·rw[t2,o2];simp[part,ia36,so36];rfl
 ·rw[t2,o2];simp[part,ia36,so36];rfl
 ·rw[t2];exact FO (d+0) _ _ w
 ·rw[t3,o3];simp[part,ia36,so36];rfl
 ·rw[t3,o3];simp[part,ia36,so36];rfl
 ·rw[t3];exact FO (d+0) _ _ w
def qrA(x y:Ln)(w:World):(Op.equalIn 10000 98 (yV x) (yV y)).run Tryz.prog w= .ok (decide (x=y)) w:=qpo 9995 x y w
def qpp(d:Nat)(x y:ny)(w:World):(Op.equalIn (d+7) 63 (Gy x) (Gy y)).run Tryz.prog w= .ok (decide (x=y)) w:=by
 have e:decide (x=y)=(decide (x.i=y.i)&&(decide (x.a=y.a)&&(decide (x.b=y.b)&&true))):=by
  rw[Bool.eq_iff_iff];cases x;cases y;simp[Bool.and_assoc]
 rw[e];have hf:∃f0 f1 f2:Field,(Tryz.prog.fieldsOf 63).toList=[f0,f1,f2]∧f0.name≠ "_" ∧f1.name≠ "_" ∧f2.name≠ "_" ∧f0.type=61∧f1.type=38∧f2.type=38∧f0.offset=0∧f1.offset=20∧f2.offset=29:=⟨⟨"In",61,0,false,"","",0⟩,⟨"From",38,20,false,"","",216⟩,⟨"To",38,29,false,"","",320⟩,ak,ax,ax,ax,rfl,rfl,rfl,rfl,rfl,rfl⟩;obtain⟨f0,f1,f2,h0,n0,n1,n2,t0,t1,t2,o0,o1,o2⟩:=hf;unfold Gy;rw[run_equalIn_struct w (d+6) 63 _ _ ak ak,h0];have ia38:(isAgg 38).run Tryz.prog w= .ok true w:=ak
 have so38:(sizeOf 38).run Tryz.prog w= .ok 9 w:=ak;have ia61:(isAgg 61).run Tryz.prog w= .ok true w:=ak;have so61:(sizeOf 61).run Tryz.prog w= .ok 20 w:=ak;refine mX (T:=61) n0 (x:=fV x.i) (y:=fV y.i) ?_ ?_ ?_ (mX (T:=38) n1 (x:=RV x.a) (y:=RV y.a) ?_ ?_ ?_ (mX (T:=38) n2 (x:=RV x.b) (y:=RV y.b) ?_ ?_ ?_ rfl))
 ·rw[t0,o0];simp[part,ia61,so61];rfl
 ·rw[t0,o0];simp[part,ia61,so61];rfl
 ·rw[t0];exact qkO (d+0) _ _ w
 ·rw[t1,o1];simp[part,ia38,so38];rfl
 ·rw[t1,o1];simp[part,ia38,so38];rfl
 ·rw[t1];exact U0 (d+1) _ _ w
 ·rw[t2,o2];simp[part,ia38,so38];rfl
 ·rw[t2,o2];simp[part,ia38,so38];rfl
 ·rw[t2];exact U0 (d+1) _ _ w
def qnf(x y:ny)(w:World):(Op.equalIn 10000 63 (Gy x) (Gy y)).run Tryz.prog w= .ok (decide (x=y)) w:=qpp 9993 x y w
end Go.Proofs.YtaffcpfhedadhaaGreatDoor
namespace Go.Via
open Go
def memP(ρ:Rl->Int)(l:List (qB×qB))(k:Int):Bool:=l.any fun p=>decide (aW ρ p.1<=k)&&decide (k<aW ρ p.2)
def U1{ρ:Rl->Int}{G:Int->Bool}{B:List qB}(HG:∀k1 k2,k1<=k2->(∀b∈B,¬(k1<aW ρ b∧aW ρ b<=k2))->G k1=G k2)(H1:∀k,(∀b∈B,aW ρ b<=k)->G k=false):
 ∀{C:List qB} {lo:Int} {st:Option qB},C.Pairwise (fun a b=>aW ρ a<aW ρ b)->(∀c∈C,lo<aW ρ c)->(∀b∈B,aW ρ b<=lo∨b∈C)->G lo=st.isSome->(∀f,st=some f->aW ρ f<=lo)->
 ∀k,memP ρ (iE (fun c=>G (aW ρ c)) st C) k=if lo<=k then G k else(match st with|none=>false|some f=>decide (aW ρ f<=k))
 |[],lo,st,_,_,hB,hG,hf,k=>by
  have hz:∀k,lo<=k->G k=false:=fun k hk=>H1 k fun b hb=>by
   rcases hB b hb with h|h
   ·omega
   ·simp at h
  cases st with
  |some f=>rw[hz lo (Int.le_refl _)] at hG;cases hG
  |none=>
   show false=_
   split
   ·rename_i h;rw[hz k h]
   ·rfl
 |c::cs,lo,st,hs,hlo,hB,hG,hf,k=>by
  obtain⟨s1,s2⟩:=List.pairwise_cons.1 hs;have hc:=hlo c (List.mem_cons_self ..);have hB':∀b∈B,aW ρ b<=aW ρ c∨b∈cs:=fun b hb=>by
   rcases hB b hb with h|h
   ·exact .inl ae
   ·rcases List.mem_cons.1 h with h|h
    ·rw[h];exact .inl (Int.le_refl _)
    ·exact .inr h
  have hmid:∀k,lo<=k->k<aW ρ c->G k=st.isSome:=fun k h1 h2=>by
   rw[<-hG];refine(HG lo k h1 fun b hb hk=>?_).symm;rcases hB b hb with h|h
   ·omega
   ·rcases List.mem_cons.1 h with h|h
    ·rw[h] at hk;omega
    ·have:=s1 b h;omega
  have ih:=fun st h1 h2=>U1 HG H1 (C:=cs) (lo:=aW ρ c) (st:=st) s2 s1 hB' h1 h2 k
  cases st with
  |none=>
   unfold iE;cases hg:G (aW ρ c)
   ·rw[if_neg ax,ih none hg fun f e=>by cases e]
    by_cases h1:aW ρ c<=k
    ·rw[if_pos h1,if_pos ae]
    ·rw[if_neg h1]
     by_cases h2:lo<=k
     ·rw[if_pos h2,hmid k h2 ae];rfl
     ·rw[if_neg h2]
   ·rw[if_pos rfl,ih (some c) hg fun f e=>by injection e with e;rw[<-e];exact Int.le_refl _]
    by_cases h1:aW ρ c<=k
    ·rw[if_pos h1,if_pos ae]
    ·rw[if_neg h1];dsimp only;rw[decide_eq_false h1]
     by_cases h2:lo<=k
     ·rw[if_pos h2,hmid k h2 ae];rfl
     ·rw[if_neg h2]
  |some f=>
   have hf':=hf f rfl;unfold iE;cases hg:G (aW ρ c)
   ·rw[if_neg ax];have e:memP ρ ((f,c)::iE (fun c=>G (aW ρ c)) none cs) k=((decide (aW ρ f<=k)&&decide (k<aW ρ c))||memP ρ (iE (fun c=>G (aW ρ c)) none cs) k):=rfl;rw[e,ih none hg fun f e=>by cases e]
    dsimp only
    by_cases h1:aW ρ c<=k
    ·rw[if_pos h1,if_pos (show lo<=k by omega),decide_eq_false (show¬k<aW ρ c by omega),Bool.and_false,Bool.false_or]
    ·rw[if_neg h1,decide_eq_true (show k<aW ρ c by omega),Bool.and_true,Bool.or_false]
     by_cases h2:lo<=k
     ·rw[if_pos h2,hmid k h2 ae,decide_eq_true ae];rfl
     ·rw[if_neg h2]
   ·rw[if_pos rfl,ih (some f) hg fun g e=>by injection e with e;rw[<-e];omega]
    dsimp only
    by_cases h1:aW ρ c<=k
    ·rw[if_pos h1,if_pos (show lo<=k by omega)]
    ·rw[if_neg h1]
     by_cases h2:lo<=k
     ·rw[if_pos h2,hmid k h2 ae,decide_eq_true ae];rfl
     ·rw[if_neg h2]
theorem qeJ{ρ:Rl->Int}{l:List (qB×qB)}{k:Int}:memB ρ (l.map fun p=>NK p.1 p.2) k=memP ρ l k:=by
 unfold memB memP;rw[List.any_map]
 congr 1
 funext p
 have e1:(NK p.1 p.2).b=p.1:=rfl;have e2:(NK p.1 p.2).e=p.2:=(by unfold NK Iv.e;simp);simp only[Function.comp,e1,e2]
def qng{ρ:Rl->Int}(C:List qB):∃lo:Int,∀c∈C,lo<aW ρ c:=by
 induction C with
 |nil=>exact⟨0,fun c hc=>absurd hc bI⟩
 |cons c C ih=>
  obtain⟨lo,h⟩:=ih;refine⟨min lo (aW ρ c-1),fun x hx=>?_⟩
  rcases List.mem_cons.1 hx with e|e
  ·subst e;omega
  ·have:=h x e;omega
theorem qbN{S:Rl->Prop}{ρ:Rl->Int}(T:fF S ρ){op:Bool->Bool->Bool}(h0:op false false=false){a b:List Iv}(ha:jZ S a)(hb:jZ S b)(k:Int):memB ρ (gm op a b) k=op (memB ρ a k) (memB ρ b k):=by
 obtain⟨s1,_⟩:=uO T (uq (ni ha hb));have hin:=Lu T ha hb;rw[Ed T h0 ha hb,qeJ];obtain⟨lo',hlo⟩:=qng (ρ:=ρ) (nY (eY (bW (a++b))))
 let lo:=min lo' (k-1)
 have hlo2:∀c∈nY (eY (bW (a++b))),lo<aW ρ c:=fun c hc=>by have:=hlo c hc;show min lo' (k-1)<_;omega
 have hG0:op (memB ρ a lo) (memB ρ b lo)=false:=by
  rw[FI fun c hc=>hlo2 c (hin c (List.mem_append_left _ hc)),FI (l:=b) fun c hc=>hlo2 c (hin c (List.mem_append_right _ hc)),h0]
 have:=U1 (ρ:=ρ) (G:=fun k=>op (memB ρ a k) (memB ρ b k)) (B:=dQ a++dQ b) (fun k1 k2 hk hn=>by
 show op (memB ρ a k1) (memB ρ b k1)=op (memB ρ a k2) (memB ρ b k2);rw[Ce hk fun c hc=>hn c (List.mem_append_left _ hc),Ce (l:=b) hk fun c hc=>hn c (List.mem_append_right _ hc)]) (fun k hk=>by
 show op (memB ρ a k) (memB ρ b k)=false;rw[Cf fun c hc=>hk c (List.mem_append_left _ hc),Cf (l:=b) fun c hc=>hk c (List.mem_append_right _ hc),h0]) (lo:=lo) (st:=none) (uf s1) hlo2 (fun c hc=> .inr (hin c hc)) hG0 (fun f e=>by cases e) k
 rw[this,if_pos (show min lo' (k-1)<=k by omega)]
end Go.Via
namespace Go.Via
open Go
def gV(x:Rl):Prop:=∃z:Int,x=rl (z:Rat)
def gG(x:Rl):Int:=x.p.num
theorem ry(z:Int):gG (rl (z:Rat))=z:=by unfold gG rl;exact Rat.num_intCast z
theorem nz:fF gV gG:=by
 constructor
 ·rintro x y ⟨a,rfl⟩ ⟨b,rfl⟩;rw[QR,ry,ry];rcases FB (a:Rat) (b:Rat) with⟨c,e⟩|⟨c,e⟩|⟨c,e⟩<;>rw[e]
  ·have:=Rat.intCast_lt_intCast.1 c;omega
  ·have:=Rat.intCast_lt_intCast.1 c;omega
  ·have:=Rat.intCast_inj.1 c;omega
 ·rintro x y ⟨a,rfl⟩ ⟨b,rfl⟩;rw[QR,ry,ry];rcases FB (a:Rat) (b:Rat) with⟨c,e⟩|⟨c,e⟩|⟨c,e⟩<;>rw[e]
  ·have:=Rat.intCast_lt_intCast.1 c;omega
  ·have:=Rat.intCast_lt_intCast.1 c;omega
  ·have:=Rat.intCast_inj.1 c;omega
 ·rintro x y ⟨a,rfl⟩ ⟨b,rfl⟩ h;rw[ry,ry] at h;rw[h]
structure zL where
 t:Int
 x:Int
 y:Int
structure sJ where
 time:Nat
 x:Nat
 y:Nat
 kind:Nat
def qje(a b:zL):Ln:=
 let sx:Rat:=((b.x:Rat)-(a.x:Rat))/((b.t:Rat)-(a.t:Rat))
 let sy:Rat:=((b.y:Rat)-(a.y:Rat))/((b.t:Rat)-(a.t:Rat))
 ⟨(a.x:Rat)-sx*(a.t:Rat),sx,(a.y:Rat)-sy*(a.t:Rat),sy⟩
def iJ:List sJ->zL->Bool->List PU->List PU
 |[],last,alone,out=>if alone=true then out++[⟨⟨rl (last.t:Rat),rl (last.t:Rat),false,false⟩,⟨(last.x:Rat),0,(last.y:Rat),0⟩⟩] else out
 |s::l,last,alone,out=>
  let next:zL:=⟨last.t+1+(s.time%8:Nat),(s.x%64:Nat),(s.y%64:Nat)⟩
  let frm:zL:=if s.kind%8=1 then⟨last.t,(s.y%64:Nat),(s.x%64:Nat)⟩ else last
  iJ l next (decide (s.kind%8=0)) (if s.kind%8=0 then out else out++[⟨⟨rl (frm.t:Rat),rl (next.t:Rat),!out.isEmpty&& !alone,false⟩,qje frm next⟩])
def Cj:∀{l:List sJ} {last:zL} {alone:Bool} {out:List PU},pV gG out->Ends gV out->(∀u∈out,aW gG u.i.e<=2*last.t+(if alone=true then 0 else 1))->
 pV gG (iJ l last alone out)∧Ends gV (iJ l last alone out)
 |[],last,alone,out,h1,h2,h3=>by
  unfold iJ
  split
  ·rename_i ha
   rw[if_pos ha] at h3;have e1:aW gG (Iv.b ⟨rl (last.t:Rat),rl (last.t:Rat),false,false⟩)=2*last.t:=by unfold aW Iv.b;rw[ry];simp
   have e2:aW gG (Iv.e ⟨rl (last.t:Rat),rl (last.t:Rat),false,false⟩)=2*last.t+1:=(by unfold aW Iv.e;rw[ry];simp);exact⟨AQ h1 (by dsimp only;omega) fun x hx=>by have:=h3 x hx;dsimp only;omega,x8 h2 ⟨⟨_,rfl⟩,⟨_,rfl⟩⟩⟩
  ·exact⟨h1,h2⟩
 |s::l,last,alone,out,h1,h2,h3=>by
  unfold iJ;dsimp only;have hft:(if s.kind%8=1 then(⟨last.t,(s.y%64:Nat),(s.x%64:Nat)⟩:zL) else last).t=last.t:=by split<;>rfl
  rw[hft]
  generalize hn:last.t+1+((s.time%8:Nat):Int)=nt
  have hlt:last.t<nt:=ae
  by_cases hk:s.kind%8=0
  ·rw[if_pos hk];refine Cj h1 h2 fun u hu=>?_
   have:=h3 u hu;dsimp only
   split at this<;>split<;>omega
  ·rw[if_neg hk]
   generalize hb:(!out.isEmpty&& !alone)=fo
   have e1:aW gG (Iv.b ⟨rl (last.t:Rat),rl (nt:Rat),fo,false⟩)=2*last.t+(if fo=true then 1 else 0):=(by unfold aW Iv.b;rw[ry]);have e2:aW gG (Iv.e ⟨rl (last.t:Rat),rl (nt:Rat),fo,false⟩)=2*nt+1:=(by unfold aW Iv.e;rw[ry];simp);refine Cj (AQ h1 ?_ fun u hu=>?_) (x8 h2 ⟨⟨_,rfl⟩,⟨_,rfl⟩⟩) fun u hu=>?_
   ·dsimp only;rw[e1,e2];split<;>omega
   ·dsimp only;rw[e1];have h:=h3 u hu;have hne:out.isEmpty=false:=by cases out;simp at hu;rfl
    rw[hne] at hb;cases alone<;>simp at hb h ⊢ <;>subst hb<;>simp<;>omega
   ·dsimp only;rw[decide_eq_false hk];simp only[Bool.false_eq_true,if_false];rcases List.mem_append.1 hu with e|e
    ·have:=h3 u e;split at this<;>omega
    ·rw[List.mem_singleton] at e;rw[e];dsimp only;rw[e2];omega
def jF(t x y:Nat)(l:List sJ):List PU:=qC (iJ (l.take 6) ⟨(t%16:Nat),(x%64:Nat),(y%64:Nat)⟩ true [])
def FP(t x y:Nat)(l:List sJ):pV gG (jF t x y l)∧Ends gV (jF t x y l):=by
 obtain⟨h1,h2⟩:=Cj (l:=l.take 6) (last:=⟨(t%16:Nat),(x%64:Nat),(y%64:Nat)⟩) (alone:=true) (out:=[]) ⟨List.Pairwise.nil,bI⟩ (by simp[Ends]) bI;exact Ph nz h1 h2
end Go.Via
namespace Go.Via
open Go
theorem LJ{g:qB->Bool}(h:∀c,g c=false):∀{C:List qB},iE g none C=[]
 |[]=>rfl
 |c::C=>by unfold iE;rw[h,if_neg ax,LJ h]
theorem He{S:Rl->Prop}{ρ:Rl->Int}(T:fF S ρ){op:Bool->Bool->Bool}(h0:op false false=false){a b:List Iv}(ha:jZ S a)(hb:jZ S b):gm op a b=[]↔∀k,op (memB ρ a k) (memB ρ b k)=false:=by
 constructor
 ·intro h k;rw[<-qbN T h0 ha hb,h];rfl
 ·intro h;rw[Ed T h0 ha hb,LJ fun c=>h _];rfl
def uU(x p:Iv):Bool:=(gm (fun a b=>a&& !b) [p] [x]).isEmpty
theorem AV{S:Rl->Prop}{i:Iv}(h:S i.f∧S i.t):jZ S [i]:=fun j hj=>by rw[List.mem_singleton] at hj;rw[hj];exact h
theorem LK{S:Rl->Prop}{ρ:Rl->Int}(T:fF S ρ){x p:Iv}(hx:S x.f∧S x.t)(hp:S p.f∧S p.t)(op:aW ρ p.b<aW ρ p.e):uU x p=true↔aW ρ x.b<=aW ρ p.b∧aW ρ p.e<=aW ρ x.e:=by
 unfold uU;rw[List.isEmpty_iff,He T rfl (AV hp) (AV hx)];have e:∀k,(memB ρ [p] k&& !memB ρ [x] k)=false↔(aW ρ p.b<=k->k<aW ρ p.e->aW ρ x.b<=k∧k<aW ρ x.e):=fun k=>by
  rw[FM,FM]
  by_cases h1:aW ρ p.b<=k<;>by_cases h2:k<aW ρ p.e<;>by_cases h3:aW ρ x.b<=k<;>by_cases h4:k<aW ρ x.e<;>simp[h1,h2,h3,h4]
 constructor
 ·intro h;have h1:=(e _).1 (h (aW ρ p.b)) (Int.le_refl _) op;have h2:=(e _).1 (h (aW ρ p.e-1)) ae ae;omega
 ·rintro⟨h1,h2⟩ k;rw[e];intro h3 h4;omega
def dV(x:Rl):Bool:=if dE x.r<0 then false else if dE x.r=0 then !x.n else !Cc x.r
def Cm(x:Rl):dV x=true↔x.ok:=by
 unfold dV Rl.ok;rcases lI x.r with⟨h,e⟩|⟨h,e⟩|⟨h,e⟩<;>rw[e]
 ·simp;have:x.r≠0:=kN
  simp[h,this]
 ·simp
  constructor
  ·intro hh;grind
  ·intro hh;grind
 ·simp[h]
def Ef(l:List (Iv×Qd))(p:ny):Bool:=l.any fun x=>uU x.1 p.i&&decide (aC (p.i,x.2)=p)
end Go.Via
namespace Go.Via
open Go
def Xb(a b:Iv):Bool:=decide (bQ a.t b.f<0)||decide (bQ a.t b.f=0)&&(a.tp||b.fo)
def AX(before:Option Iv)(i:Iv):Bool:=match before with|some b=> !Xb b i|none=>false
def oL(l:List (Iv×Qd))(before:Option Iv)(p:ny):Int:=
 if(dV p.i.f&&dV p.i.t)=false then 5 else if lF p.i=false then 10 else if(dV p.a&&dV p.b)=false then 5
 else if AX before p.i=true then 7 else if Ef l p=true then 0 else 30
def kK(one:Option Iv->ny->Int):Option Iv->List ny->Int
 |_,[]=>0
 |b,p::ps=>if one b p=0 then kK one (some p.i) ps else one b p
end Go.Via
namespace Go.Via
open Go
def orB(x y:Bool):Bool:=x||y
def qrB(x y:Bool):Bool:=x&&y
def jT(l:List Iv):List Iv:=gm orB l []
def yc(a b:List PU)(c:List ny)(m:Rl):Int:=
 if(aj a b).isEmpty=true then 36 else if kK (oL (aj a b)) none c≠0 then kK (oL (aj a b)) none c
 else if jT (c.map (·.i))≠jT ((aj a b).map (·.1)) then 12 else if dV m=false then 5 else if m≠bJ c then 30 else 0
def LM{S:Rl->Prop}:jZ S []:=fun i hi=>Oj
def Pn{ρ:Rl->Int}{l:List Iv}{k:Int}:memB ρ l k=true↔∃i∈l,aW ρ i.b<=k∧k<aW ρ i.e:=by
 unfold memB;rw[List.any_eq_true];simp only[Bool.and_eq_true,decide_eq_true_eq]
def FQ{S:Rl->Prop}{ρ:Rl->Int}(T:fF S ρ){a b:List PU}(ea:Ends S a)(eb:Ends S b):∀z∈flatK rZ a b,(S z.1.f∧S z.1.t)∧aW ρ z.1.b<aW ρ z.1.e:=fun z hz=>by
 obtain⟨x,hx,hm⟩:=List.mem_flatMap.1 hz;obtain⟨y,hy,hm⟩:=List.mem_filterMap.1 hm;have:=uQ T (ea x hx) (eb y hy) hm;exact⟨⟨this.2.2.1,this.2.2.2.1⟩,this.2.2.2.2.1⟩
def U2{S:Rl->Prop}{ρ:Rl->Int}(T:fF S ρ){l:List Iv}(h:jZ S l)(ho:G7 ρ l):(jT l).isEmpty=l.isEmpty:=by
 rw[Bool.eq_iff_iff,List.isEmpty_iff,List.isEmpty_iff]
 constructor
 ·intro h1;cases l with
  |nil=>rfl
  |cons i l=>
   exfalso
   have h2:=(He T (op:=orB) rfl h LM).1 h1 (aW ρ i.b);have h3:memB ρ (i::l) (aW ρ i.b)=true:=Pn.2 ⟨i,List.mem_cons_self ..,Int.le_refl _,ho i (List.mem_cons_self ..)⟩;rw[h3] at h2;cases h2
 ·intro h1;rw[h1];rfl
end Go.Via
namespace Go.Via
open Go
theorem U3{S:Rl->Prop}{ρ:Rl->Int}(T:fF S ρ){a b:Iv}(ha:S a.t)(hb:S b.f):Xb a b=true↔aW ρ a.e<=aW ρ b.b:=by
 have h1:=T.lt ha hb;have h2:=T.zero ha hb;unfold Xb aW Iv.b Iv.e;simp only[Bool.or_eq_true,Bool.and_eq_true,decide_eq_true_eq,h1,h2];cases a.tp<;>cases b.fo<;>simp<;>omega
def JB(q:Rat):dV (rl q)=true:=(Cm _).2 (qkI q)
def Po{S:Rl->Prop}{ρ:Rl->Int}(T:fF S ρ)(hS:∀x,S x->dV x=true){L:List (Iv×Qd)}:∀{l:List (Iv×Qd)} {before:Option Iv},(∀x∈l,x∈L∧(S x.1.f∧S x.1.t)∧aW ρ x.1.b<aW ρ x.1.e∧dV (aC x).a=true∧dV (aC x).b=true)->
 l.Pairwise (fun x y=>aW ρ x.1.e<=aW ρ y.1.b)->(∀b,before=some b->S b.t∧∀x∈l,aW ρ b.e<=aW ρ x.1.b)->kK (oL L) before (l.map aC)=0
 |[],_,_,_,_=>rfl
 |x::l,before,h,hs,hb=>by
  obtain⟨hL,hx,hlt,ha,hb'⟩:=h x (List.mem_cons_self ..);obtain⟨s1,s2⟩:=List.pairwise_cons.1 hs;have e:oL L before (aC x)=0:=by
   have ei:(aC x).i=x.1:=rfl;unfold oL;rw[ei,hS _ hx.1,hS _ hx.2,if_neg ax,(uM T hx.1 hx.2).2 hlt,if_neg ax,ha,hb',if_neg ax];have hw:AX before x.1=false:=by
    cases before with
    |none=>rfl
    |some b=>
     have:=hb b rfl;unfold AX;dsimp only;rw[(U3 T this.1 hx.1).2 (this.2 x (List.mem_cons_self ..))];rfl
   have hr:Ef L (aC x)=true:=by
    unfold Ef;rw[List.any_eq_true];refine⟨x,hL,?_⟩;rw[Bool.and_eq_true,decide_eq_true_eq];exact⟨(LK T hx hx hlt).2 ⟨Int.le_refl _,Int.le_refl _⟩,rfl⟩
   rw[hw,if_neg ax,hr,if_pos rfl]
  rw[List.map_cons];unfold kK;rw[e,if_pos rfl];refine Po T hS (fun y hy=>h y (List.mem_cons_of_mem _ hy)) s2 fun b hb=>?_
  injection hb with hb
  subst hb;exact⟨hx.2,fun y hy=>s1 y hy⟩
def qjf{ρ:Rl->Int}{S:Rl->Prop}(hS:∀x,S x->∃q,x=rl q)(T:fF S ρ){a b:List PU}(sa:pV ρ a)(sb:pV ρ b)(ea:Ends S a)(eb:Ends S b)(hne:aj a b≠[])
 (hok:dV (bJ ((aj a b).map aC))=true):yc a b ((aj a b).map aC) (bJ ((aj a b).map aC))=0:=by
 have hpf:=ku T sa sb ea eb;have hps:=FQ T ea eb;have hcert:kK (oL (aj a b)) none ((aj a b).map aC)=0:=by
  refine Po T (fun x hx=>by obtain⟨q,e⟩:=hS x hx;rw[e];exact JB q) (fun x hx=>?_) (by rw[hpf];exact(uS T sb eb sa ea).1) fun b hb=>by cases hb
  have hx':=hx;rw[hpf] at hx';obtain⟨h1,h2⟩:=hps x hx';refine⟨hx,h1,h2,?_,?_⟩
  ·obtain⟨q,e⟩:=hS _ h1.1;unfold aC;dsimp only;rw[e,AO];exact JB _
  ·obtain⟨q,e⟩:=hS _ h1.2;unfold aC;dsimp only;rw[e,AO];exact JB _
 unfold yc;have h0:¬(aj a b).isEmpty=true:=fun h=>hne (List.isEmpty_iff.1 h)
 have hm:((aj a b).map aC).map (·.i)=(aj a b).map (·.1):=(by rw[List.map_map];rfl);rw[if_neg h0,hcert,if_neg ax,hm,if_neg (fun h=>h rfl),hok,if_neg ax,if_neg (fun h=>h rfl)]
end Go.Via
namespace Go.Via
open Go
def jL(a:Rat)(u:Int)(r:Rat):Int:=if dE a=0 then u*dE r else if u*dE r=0∨dE a=u*dE r then dE a else dE a*ou (a*a) r
def NZ(a:Rat)(u:Int)(r:Rat)(v:Int)(s:Rat):Int:=
 if jL a u r≠v*dE s∨jL a u r=0 then(if v*dE s<jL a u r then 1 else jL a u r-v*dE s)
 else jL a u r*jL (a*a+r-s) (u*dE a) (4*(a*a*r))
def nC(x:Rl):Int:=if x.n=true then-1 else 1
def qeK(x y:Rl):Int:=if NZ (x.p-y.p) (nC x) x.r (nC y) y.r<0 then-1 else if 0<NZ (x.p-y.p) (nC x) x.r (nC y) y.r then 1 else 0
theorem FT(x:Rl):dE (o5 x)=nC x:=qiX x
def qjg{a b r:Rat}(hb:b*b=1):jL a (dE b) r=uo a b r:=by
 unfold jL uo;rw[hb];have e1:(1:Rat)*r=r:=kN
 rw[e1]
 by_cases h:dE a=0
 ·rw[if_pos h]
  by_cases h2:dE b*dE r=0
  ·rw[if_pos (.inl h2),h2,h]
  ·rw[if_neg (fun e=>e.elim h2 fun e=>h2 (by rw[<-e,h])),if_pos h]
 ·rw[if_neg h]
  by_cases h2:dE b*dE r=0∨dE a=dE b*dE r
  ·rw[if_pos h2,if_pos h2]
  ·rw[if_neg h2,if_neg h2,if_neg h]
theorem CB(a b:Rat):dE (a*b)=dE a*dE b:=by
 rcases lI a with⟨h,e⟩|⟨h,e⟩|⟨h,e⟩<;>rcases lI b with⟨h',e'⟩|⟨h',e'⟩|⟨h',e'⟩<;>rw[e,e']
 ·rw[QP (Rat.mul_pos h h')];rfl
 ·rw[QQ (by have:=Rat.mul_pos h (show 0< -b by grind);grind)];rfl
 ·rw[h',Rat.mul_zero];rfl
 ·rw[QQ (by have:=Rat.mul_pos (show 0< -a by grind) h';grind)];rfl
 ·rw[QP (by have:=Rat.mul_pos (show 0< -a by grind) (show 0< -b by grind);grind)];rfl
 ·rw[h',Rat.mul_zero];rfl
 ·rw[h,Rat.zero_mul];rfl
 ·rw[h,Rat.zero_mul];rfl
 ·rw[h,Rat.zero_mul];rfl
def qbO{A a b r:Rat}(hb:b*b=1):jL A (dE b*dE a) (4*(a*a*r))=uo A (2*(a*b)) r:=by
 have e0:dE (4*(a*a*r))=dE a*dE a*dE r:=(by rw[CB,CB,CB];show 1*_=_;rw[Int.one_mul]);have e1:dE (2*(a*b))=dE a*dE b:=(by rw[CB,CB];show 1*_=_;rw[Int.one_mul]);have e2:2*(a*b)*(2*(a*b))*r=4*(a*a*r):=kN;have e3:dE b*dE a*(dE a*dE a*dE r)=dE a*dE b*dE r:=by
  rcases lI a with⟨_,e⟩|⟨_,e⟩|⟨_,e⟩<;>rw[e]<;>simp<;>omega
 unfold jL uo;rw[e0,e1,e2,e3]
 by_cases h:dE A=0
 ·rw[if_pos h]
  by_cases h2:dE a*dE b*dE r=0
  ·rw[if_pos (.inl h2),h2,h]
  ·rw[if_neg (fun e=>e.elim h2 fun e=>h2 (by rw[<-e,h])),if_pos h]
 ·rw[if_neg h]
  by_cases h2:dE a*dE b*dE r=0∨dE A=dE a*dE b*dE r
  ·rw[if_pos h2,if_pos h2]
  ·rw[if_neg h2,if_neg h2,if_neg h]
def CE(a b r:Rat):uo a b r= -1∨uo a b r=0∨uo a b r=1:=by
 have hs:∀q,dE q= -1∨dE q=0∨dE q=1:=fun q=>Zc
 have hc:∀p q,ou p q= -1∨ou p q=0∨ou p q=1:=fun p q=>qd7
 have hm:∀{a b:Int},(a= -1∨a=0∨a=1)->(b= -1∨b=0∨b=1)->(a*b= -1∨a*b=0∨a*b=1):=fun h h'=>by
  rcases h with h|h|h<;>rcases h' with h'|h'|h'<;>simp[h,h']
 unfold uo
 split
 ·exact hs _
 ·split
  ·exact hm (hs _) (hs _)
  ·exact hm (hs _) (hc _ _)
def qjh(x y:Rl):qeK x y=bQ x y:=by
 have h1:jL (x.p-y.p) (nC x) x.r=uo (x.p-y.p) (o5 x) x.r:=(by rw[<-FT];exact qjg (qet x));have h2:jL ((x.p-y.p)*(x.p-y.p)+x.r-y.r) (nC x*dE (x.p-y.p)) (4*((x.p-y.p)*(x.p-y.p)*x.r))=uo ((x.p-y.p)*(x.p-y.p)+x.r-y.r) (2*((x.p-y.p)*o5 x)) x.r:=by
  rw[<-FT];exact qbO (qet x)
 have h3:dE (-o5 y)*dE y.r= -(nC y*dE y.r):=(by rw[qes,FT,Int.neg_mul]);have r1:=CE (x.p-y.p) (o5 x) x.r;have r2:=CE ((x.p-y.p)*(x.p-y.p)+x.r-y.r) (2*((x.p-y.p)*o5 x)) x.r;have r3:nC y*dE y.r= -1∨nC y*dE y.r=0∨nC y*dE y.r=1:=by
  unfold nC;rcases lI y.r with⟨_,e⟩|⟨_,e⟩|⟨_,e⟩<;>rw[e]<;>split<;>simp
 unfold qeK NZ bQ;rw[h1,h2,h3]
 generalize uo (x.p-y.p) (o5 x) x.r=m at*
 generalize uo ((x.p-y.p)*(x.p-y.p)+x.r-y.r) (2*((x.p-y.p)*o5 x)) x.r=k at*
 generalize nC y*dE y.r=n at*
 rcases r1 with rfl|rfl|rfl<;>rcases r3 with rfl|rfl|rfl<;>rcases r2 with rfl|rfl|rfl<;>decide
theorem Zq(q:Rat):Cc q=true↔∃y:Rat,q=y*y:=by
 constructor
 ·intro h;unfold Cc at h;simp only[Bool.and_eq_true,decide_eq_true_eq,beq_iff_eq] at h;obtain⟨⟨h0,h1⟩,h2⟩:=h;refine⟨mZ q,?_⟩;have hd:bT q.den≠0:=fun e=>by rw[e] at h2;exact q.den_nz h2.symm
  unfold mZ;rw[Rat.divInt_mul_divInt];have e1:((bT q.num.natAbs:Nat):Int)*((bT q.num.natAbs:Nat):Int)=q.num:=by
   rw[<-Int.natCast_mul,h1];omega
  have e2:((bT q.den:Nat):Int)*((bT q.den:Nat):Int)=(q.den:Int):=by
   rw[<-Int.natCast_mul,h2]
  rw[e1,e2];exact(Rat.num_divInt_den q).symm
 ·rintro⟨y,rfl⟩;exact qm3 y
theorem qji{x r:Rat}(h:x≠0):Cc (x*x*r)=Cc r:=by
 rw[Bool.eq_iff_iff,Zq,Zq]
 constructor
 ·rintro⟨y,e⟩;refine⟨y/x,?_⟩;have:r=x*x*r/(x*x):=by
   rw[Rat.mul_comm,Rat.mul_div_cancel];intro e0;rcases Rat.mul_eq_zero.1 e0 with e|e<;>exact h e
  rw[this,e]
  grind
 ·rintro⟨y,rfl⟩;exact⟨x*y,kN⟩
def ofM(p r:Rat)(n:Bool):Rl:=if Cc r=true then rl (p+if n=true then-mZ r else mZ r) else⟨p,r,n⟩
def lS(f:Qd)(t:Rl):Qd:=if dE t.r=0 then⟨uI f t.p,0,0⟩ else⟨f.c0+f.c2*(t.r-t.p*t.p),f.c1+2*(t.p*f.c2),0⟩
def atM(f:Qd)(t:Rl):Rl:=ofM ((lS f t).c0+(lS f t).c1*t.p) ((lS f t).c1*(lS f t).c1*t.r) (t.n !=decide (dE (lS f t).c1<0))
theorem qnj{f:Qd}{t:Rl}(h:t.ok):atM f t=O8 f t:=by
 unfold atM
 by_cases h0:t.r=0
 ·have ht:=h.rat h0;rw[ht,AO];have e0:lS f (rl t.p)=⟨uI f t.p,0,0⟩:=by unfold lS rl;rw[if_pos Fz]
  rw[e0];unfold ofM rl;dsimp only;have e:(0:Rat)*0*0=0:=kN
  rw[e,Lr,if_pos rfl,Ec]
  congr 1
  rw[Rat.zero_mul,Rat.add_zero]
  split<;>grind
 ·have hs:dE t.r≠0:=fun e=>by rcases lI t.r with⟨_,e'⟩|⟨_,e'⟩|⟨e',_⟩<;>simp_all
  have hq:Cc t.r=false:=qkH
  have e1:f.c1+2*(t.p*f.c2)=Dj f t.p:=(by unfold Dj;grind);unfold lS;rw[if_neg hs];dsimp only;rw[e1,qew h h0];have e2:f.c0+f.c2*(t.r-t.p*t.p)+Dj f t.p*t.p=uI f t.p+f.c2*t.r:=(by unfold uI Dj;grind);rw[e2];unfold ofM
  by_cases hz:Dj f t.p=0
  ·rw[hz];have e:(0:Rat)*0*t.r=0:=kN
   have e3:o5 t*0=0:=kN;rw[e,e3,Lr,if_pos rfl,Ec,Fz];unfold rl
   congr 1
   split<;>grind
  ·rw[qji hz,hq,if_neg ax,CB,FT]
   congr 1
   unfold nC;rcases lI (Dj f t.p) with⟨_,e⟩|⟨_,e⟩|⟨e,_⟩
   ·rw[e];cases t.n<;>decide
   ·rw[e];cases t.n<;>decide
   ·exact absurd e hz
end Go.Via
namespace Go.Via
open Go
structure Two(a b:List PU)(m:Rl)(S:Rl->Prop)(ρ:Rl->Int):Prop where
 T:fF S ρ
 ea:Ends S a
 eb:Ends S b
 sa:pV ρ a
 sb:pV ρ b
 sm:S m
 only:∀x,S x->gV x∨x=m
def Xc(i:Iv)(t:Rl):Bool:=(decide (bQ i.f t<0)||decide (bQ i.f t=0)&& !i.fo)&&(decide (bQ t i.t<0)||decide (bQ t i.t=0)&& !i.tp)
def qnk{S:Rl->Prop}{ρ:Rl->Int}(hS:∀x,S x->qry x)(T:fF S ρ){a b:List PU}(ea:Ends S a)(eb:Ends S b)(sa:pV ρ a)(sb:pV ρ b):qbK ((aj a b).map aC):=fun p hp=>by
 obtain⟨z,hz,rfl⟩:=List.mem_map.1 hp;rw[ku T sa sb ea eb] at hz;obtain⟨x,hx,y,hy,hm⟩:=(uS T sb eb sa ea).2 z hz;obtain⟨_,e2,s1,s2,_⟩:=uQ T (ea x hx) (eb y hy) hm;obtain⟨u,hu⟩:=hS _ s1;obtain⟨v,hv⟩:=hS _ s2;refine⟨uI z.2 u,uI z.2 v,?_,?_,?_,?_⟩
 ·rw[e2];exact Pm _ _ _
 ·rw[e2];exact Pm _ _ _
 ·unfold aC;rw[hu,AO]
 ·unfold aC;rw[hv,AO]
def qeL{a b:List PU}(sa:pV gG a)(sb:pV gG b)(ea:Ends gV a)(eb:Ends gV b):qbK ((aj a b).map aC):=
 qnk (fun x ⟨z,hz⟩=>⟨_,hz⟩) nz ea eb sa sb
def U4:∀{l:List ny} {q:Rat},qbK l->∃M,l.foldl (fun o x=>gU o (gU x.a x.b)) (rl q)=rl M∧q<=M∧∀p∈l,∀u v,p.a=rl u->p.b=rl v->u<=M∧v<=M
 |[],q,_=>⟨q,rfl,Rat.le_refl,bI⟩
 |p::l,q,h=>by
  obtain⟨u,v,hu,hv,ea,eb⟩:=h p (List.mem_cons_self ..);obtain⟨M,h1,h2,h3⟩:=U4 (l:=l) (q:=UZ q (UZ u v)) fun x hx=>h x (List.mem_cons_of_mem _ hx)
  have hq:q<=UZ q (UZ u v)∧u<=UZ q (UZ u v)∧v<=UZ q (UZ u v):=(by unfold UZ;grind);refine⟨M,?_,Rat.le_trans hq.1 h2,fun x hx u' v' eu ev=>?_⟩
  ·rw[List.foldl_cons,ea,eb,ru,ru];exact h1
  ·rcases List.mem_cons.1 hx with rfl|hx
   ·rw[ea] at eu;rw[eb] at ev;have e1:u=u':=congrArg Rl.p eu;have e2:v=v':=congrArg Rl.p ev;rw[<-e1,<-e2];exact⟨Rat.le_trans hq.2.1 h2,Rat.le_trans hq.2.2 h2⟩
   ·exact h3 x hx u' v' eu ev
def qeM{l:List ny}(h:qbK l)(hne:l≠[]):∃M,bJ l=rl M∧∀p∈l,∀u v,p.a=rl u->p.b=rl v->u<=M∧v<=M:=by
 cases l with
 |nil=>exact absurd rfl hne
 |cons p l=>
  obtain⟨u,v,hu,hv,ea,eb⟩:=h p (List.mem_cons_self ..);obtain⟨M,h1,h2,h3⟩:=U4 (l:=p::l) (q:=u) h;exact⟨M,by show List.foldl _ p.a (p::l)=_;rw[ea];exact h1,h3⟩
end Go.Via
namespace Go.Via
open Go
def Xd{a b:List PU}(sa:pV gG a)(sb:pV gG b)(ea:Ends gV a)(eb:Ends gV b)(hne:aj a b≠[]):fO ((aj a b).map aC)=bJ ((aj a b).map aC):=
 (WZ (qeL sa sb ea eb) Ym).symm
theorem U5{a b:List PU}(sa:pV gG a)(sb:pV gG b)(ea:Ends gV a)(eb:Ends gV b):aj a b=aj b a:=W9 nz sa sb ea eb
def qeN{a b:List PU}(sa:pV gG a)(sb:pV gG b)(ea:Ends gV a)(eb:Ends gV b)(hne:aj a b≠[]):∃M,bJ ((aj a b).map aC)=rl M:=by
 obtain⟨M,h,_⟩:=qeM (qeL sa sb ea eb) Ym;exact⟨M,h⟩
def qeO{a b:List PU}(sa:pV gG a)(sb:pV gG b)(ea:Ends gV a)(eb:Ends gV b)(hne:aj a b≠[]):yc a b ((aj a b).map aC) (bJ ((aj a b).map aC))=0:=by
 obtain⟨M,h⟩:=qeN sa sb ea eb hne;exact qjf (fun x ⟨z,hz⟩=>⟨_,hz⟩) nz sa sb ea eb hne (by rw[h];exact JB M)
end Go.Via
namespace Go.Via
open Go
def QU(x y:Rl):gU x y=x∨gU x y=y:=by unfold gU;split<;>simp
def qbP{l:List ny}(hne:l≠[]):∃p∈l,bJ l=p.a∨bJ l=p.b:=by
 have step:∀(l:List ny) (o:Rl),l.foldl (fun o x=>gU o (gU x.a x.b)) o=o∨∃p∈l,l.foldl (fun o x=>gU o (gU x.a x.b)) o=p.a∨l.foldl (fun o x=>gU o (gU x.a x.b)) o=p.b:=by
  intro l
  induction l with
  |nil=>intro o;exact .inl rfl
  |cons p l ih=>
   intro o;rw[List.foldl_cons];rcases ih (gU o (gU p.a p.b)) with e|⟨q,hq,e⟩
   ·rw[e];rcases QU o (gU p.a p.b) with e1|e1
    ·exact .inl e1
    ·right
     refine⟨p,List.mem_cons_self ..,?_⟩;rw[e1];exact QU _ _
   ·exact .inr ⟨q,List.mem_cons_of_mem _ hq,e⟩
 cases l with
 |nil=>exact absurd rfl hne
 |cons p l=>
  rcases step (p::l) p.a with e|h
  ·exact⟨p,List.mem_cons_self ..,.inl e⟩
  ·exact h
end Go.Via
namespace Go.Via
open Go
def FU(f:Qd):Bool:=decide (f.c2=0)&&decide (f.c1=0)
theorem qjj{f:Qd}(h:FU f=true)(s t:Rat):uI f s=uI f t:=by
 unfold FU at h;rw[Bool.and_eq_true,decide_eq_true_eq,decide_eq_true_eq] at h;unfold uI;rw[h.1,h.2];grind
def LP(M:Rl)(st:Bool×Rl)(p:ny):Bool×Rl:=if st.1=true then st else if p.a=M then(true,p.i.f) else if p.b=M then(true,p.i.t) else st
def VJ(M:Rl)(k:Bool)(z:Iv×Qd):Bool:=k||(FU z.2&&decide ((aC z).a=M))||(decide ((aC z).a=M)&& !z.1.fo)||(decide ((aC z).b=M)&& !z.1.tp)
def Xe(M:Rl)(cst:ny->Bool)(k:Bool)(p:ny):Bool:=k||(decide (p.a=M)&& !p.i.fo)||(decide (p.b=M)&& !p.i.tp)||(decide (p.a=M)&&decide (p.b=M)&&cst p)
def oC(a b:List PU)(p:ny):Bool:=((flatK rZ a b).find? fun x=>uU x.1 p.i).elim false fun x=>FU x.2
def Pq{S:Rl->Prop}{ρ:Rl->Int}(T:fF S ρ):∀{l:List (Iv×Qd)},(∀x∈l,(S x.1.f∧S x.1.t)∧aW ρ x.1.b<aW ρ x.1.e)->l.Pairwise (fun x y=>aW ρ x.1.e<=aW ρ y.1.b)->∀z∈l,l.find? (fun x=>uU x.1 z.1)=some z
 |[],_,_,z,hz=>by cases hz
 |y::l,h,hs,z,hz=>by
  obtain⟨s1,s2⟩:=List.pairwise_cons.1 hs;have hzz:=h z hz;have hyy:=h y (List.mem_cons_self ..);rcases List.mem_cons.1 hz with rfl|hz'
  ·rw[List.find?_cons,(LK T hzz.1 hzz.1 hzz.2).2 ⟨Int.le_refl _,Int.le_refl _⟩]
  ·have hno:uU y.1 z.1=false:=by
    rw[Bool.eq_false_iff];intro hc;have:=(LK T hyy.1 hzz.1 hzz.2).1 hc;have:=s1 z hz';omega
   rw[List.find?_cons,hno];exact Pq T (fun x hx=>h x (List.mem_cons_of_mem _ hx)) s2 z hz'
def Xf{a b:List PU}{M:Rl}(sa:pV gG a)(sb:pV gG b)(ea:Ends gV a)(eb:Ends gV b):(aj a b).foldl (VJ M) false=((aj a b).map aC).foldl (Xe M (oC a b)) false:=by
 have hpf:=ku nz sa sb ea eb;have hps:=FQ nz ea eb;have hsep:=(uS nz sb eb sa ea).1;rw[List.foldl_map];have hc:∀z∈aj a b,∀k,VJ M k z=Xe M (oC a b) k (aC z):=fun z hz k=>by
  rw[hpf] at hz;have e:oC a b (aC z)=FU z.2:=by
   unfold oC;have:=Pq nz hps hsep z hz;have ei:(aC z).i=z.1:=rfl;rw[ei,this];rfl
  obtain⟨⟨⟨p1,h1⟩,⟨p2,h2⟩⟩,_⟩:=hps z hz;have hd:FU z.2=true->(aC z).a=(aC z).b:=fun h=>by
   unfold aC;dsimp only;rw[h1,h2,AO,AO,qjj h]
  unfold VJ Xe;rw[e];have ei:(aC z).i=z.1:=rfl;rw[ei];cases hg:FU z.2
  ·simp
  ·have hd:=hd hg;rw[hd]
   by_cases hM:(aC z).b=M<;>simp[hM]
 have:∀(l:List (Iv×Qd)) (k:Bool),(∀z∈l,z∈aj a b)->l.foldl (VJ M) k=l.foldl (fun x y=>Xe M (oC a b) x (aC y)) k:=by
  intro l
  induction l with
  |nil=>intro k _;rfl
  |cons z l ih=>intro k h;rw[List.foldl_cons,List.foldl_cons,hc z (h z (List.mem_cons_self ..)),ih _ fun y hy=>h y (List.mem_cons_of_mem _ hy)]
 exact this _ _ fun z hz=>hz
def Pv{M:Rl}:∀{l:List ny} {st:Bool×Rl},(st.1=true∨∃p∈l,p.a=M∨p.b=M)->(l.foldl (LP M) st).1=true
 |[],st,h=>by rcases h with h|⟨p,hp,_⟩;exact h;cases hp
 |q::l,st,h=>by
  rw[List.foldl_cons];refine Pv ?_;rcases h with h|⟨p,hp,he⟩
  ·left;unfold LP;rw[if_pos h];exact h
  ·rcases List.mem_cons.1 hp with rfl|hp
   ·left
    unfold LP
    split
    ·assumption
    ·split
     ·rfl
     ·split
      ·rfl
      ·rename_i h1 h2;rcases he with e|e
       ·exact absurd e h1
       ·exact absurd e h2
   ·exact .inr ⟨p,hp,he⟩
def Xg{a b:List PU}(hne:aj a b≠[])(x:Rl):(((aj a b).map aC).foldl (LP (bJ ((aj a b).map aC))) (false,x)).1=true:=by
 obtain⟨p,hp,he⟩:=qbP (l:=(aj a b).map aC) Ym;exact Pv (.inr ⟨p,hp,by rcases he with e|e;exact .inl e.symm;exact .inr e.symm⟩)
end Go.Via
namespace Go.Via
open Go
structure jb(α:Type)(c:α->List Value)(k:Nat):Prop where
 len:∀x,(c x).length=k
 one:∀x,∀v∈c x,v.oneCell'=true
section
variable{α:Type}{c:α->List Value}{k:Nat}
def ai(c:α->List Value)(l:List α):List Value:=l.flatMap c
theorem qeP:ai c []=[]:=rfl
theorem gY(x:α)(l:List α):ai c (x::l)=c x++ai c l:=List.flatMap_cons
theorem su(l m:List α):ai c (l++m)=ai c l++ai c m:=List.flatMap_append
theorem qP(l:List α)(x:α):ai c l++c x=ai c (l++[x]):=by rw[su,gY,qeP,List.append_nil]
theorem jb.length(h:jb α c k):∀(l:List α),(ai c l).length=l.length*k
 |[]=>by simp[ai]
 |x::l=>by rw[gY,List.length_append,h.len,jb.length h l,List.length_cons,Nat.succ_mul,Nat.add_comm]
theorem jb.get(h:jb α c k):∀{l:List α} {i:Nat} {x:α},l[i]? =some x->((ai c l).drop (i*k)).take k=c x
 |[],i,x,hx=>by simp at hx
 |y::l,0,x,hx=>by
  simp at hx;subst hx;rw[gY,Nat.zero_mul,List.drop_zero,List.take_append_of_le_length Zo,List.take_of_length_le Zo]
 |y::l,i+1,x,hx=>by
  have e1:(i+1)*k=(c y).length+i*k:=Zp;rw[gY,e1,List.drop_length_add_append];exact jb.get h (by simpa using hx)
def jb.sub(h:jb α c k){l:List α}{i:Nat}{x:α}(hx:l[i]? =some x)(o n:Nat)(hn:o+n<=k):((ai c l).drop (i*k+o)).take n=((c x).drop o).take n:=by
 rw[<-h.get hx,<-List.drop_drop,List.drop_take,List.take_take]
 congr 1
 omega
def jb.ones(h:jb α c k)(l:List α):∀v∈ai c l,v.oneCell'=true:=fun v hv=>by
 obtain⟨x,_,hv⟩:=List.mem_flatMap.1 hv;exact h.one x v hv
def jb.ne(h:jb α c k)(hk:0<k){l:List α}(hl:0<l.length):ai c l≠[]:=fun e=>by
 have:=h.length l;rw[e,List.length_nil] at this;have:=Nat.mul_pos hl hk;omega
theorem jb.set(h:jb α c k):∀{l:List α} {i:Nat} (x:α),i<l.length->(ai c l).take (i*k)++c x++(ai c l).drop (i*k+k)=ai c (l.set i x)
 |[],i,x,hi=>by simp at hi
 |y::l,0,x,_=>by
  rw[Nat.zero_mul,List.take_zero,List.nil_append,Nat.zero_add,gY,List.drop_append_of_le_length Zo,List.drop_of_length_le Zo,List.nil_append,List.set_cons_zero,gY]
 |y::l,i+1,x,hi=>by
  have ih:=jb.set h (l:=l) (i:=i) x qau;have e1:(i+1)*k=(c y).length+i*k:=Zp;rw[gY,e1,Nat.add_assoc,List.take_length_add_append,List.drop_length_add_append,List.set_cons_succ,gY,<-ih];simp
end
theorem fJ{α:Type}{l:List α}{i:Nat}{x:α}(hx:l[i]? =some x):l.take i++[x]=l.take (i+1):=by
 rw[List.take_add_one,hx];rfl
end Go.Via
namespace Go.Via
open Go
def qnl(a b:Bool):Int:=if a=b then 0 else if b=true then-1 else 1
def N7(a b:PU):Int:=if bQ a.i.f b.i.f≠0 then bQ a.i.f b.i.f else if qnl a.i.fo b.i.fo≠0 then qnl a.i.fo b.i.fo else bQ a.i.t b.i.t
def qjk{S:Rl->Prop}{ρ:Rl->Int}(T:fF S ρ){x y:PU}(hx:S x.i.f)(hy:S y.i.f)(h:aW ρ x.i.b<aW ρ y.i.b):¬N7 y x<0:=by
 have h1:=T.lt hy hx;have h2:=T.gt hy hx;unfold aW Iv.b at h;dsimp only at h;unfold N7
 by_cases e:bQ y.i.f x.i.f≠0
 ·rw[if_pos e];intro h3;have:=h1.1 h3
  revert h;split<;>split<;>omega
 ·rw[if_neg e];have e':ρ y.i.f=ρ x.i.f:=by
   have:¬ρ y.i.f<ρ x.i.f:=fun k=>e (by have:=h1.2 k;omega)
   have:¬ρ x.i.f<ρ y.i.f:=fun k=>e (by have:=h2.2 k;omega)
   omega
  rw[e'] at h;have hf:x.i.fo=false∧y.i.fo=true:=by
   cases hx':x.i.fo<;>cases hy':y.i.fo<;>rw[hx',hy'] at h<;>first|exact⟨rfl,rfl⟩|(exfalso;simp at h;done)|(exfalso;simp at h;omega)
  rw[hf.1,hf.2,if_pos ax]
  decide
def Xh{S:Rl->Prop}{ρ:Rl->Int}(T:fF S ρ){l:List PU}(hs:pV ρ l)(he:Ends S l):l.Pairwise fun x y=>decide (N7 y x<0)=false:=by
 refine hs.1.imp_of_mem fun {x y} hx hy h=>?_
 have:=hs.2 x hx;exact decide_eq_false (qjk T (he x hx).1 (he y hy).1 ae)
end Go.Via
namespace Go.Via
open Go
structure qsA(m:Int)(lo hi:Int->Int)(w u:PU):Prop where
 f:gV w.i.f
 t:gV w.i.t
 b:aW gG w.i.b=lo (aW gG u.i.b)
 e:aW gG w.i.e=hi (aW gG u.i.e)
 lt:aW gG w.i.b<aW gG w.i.e
 agr:w.f=u.f∨(2*m<=aW gG w.i.b∧aW gG w.i.e<=2*m+1∧uI (qx w.f) (m:Rat)=uI (qx u.f) (m:Rat)∧uI (qy w.f) (m:Rat)=uI (qy u.f) (m:Rat))
structure qrC(z x:Iv×Qd):Prop where
 f:gV z.1.f
 t:gV z.1.t
 lt:aW gG z.1.b<aW gG z.1.e
 b:aW gG x.1.b<=aW gG z.1.b
 e:aW gG z.1.e<=aW gG x.1.e
 same:aC (z.1,x.2)=aC z
end Go.Via
namespace Go.Via
open Go
structure qsB(l:List ny)(M:Rat):Prop where
 le:∀p∈l,∀u,p.a=rl u∨p.b=rl u->u<=M
 mem:∃p∈l,p.a=rl M∨p.b=rl M
section
variable{m:Int}{a b:List PU}
theorem qeQ{a b:List PU}{z:Iv×Qd}:z∈flatK rZ a b↔∃x∈a,∃y∈b,rZ x y=some z:=by
 unfold flatK;rw[List.mem_flatMap]
 constructor
 ·rintro⟨x,hx,h⟩;obtain⟨y,hy,e⟩:=List.mem_filterMap.1 h;exact⟨x,hx,y,hy,e⟩
 ·rintro⟨x,hx,y,hy,e⟩;exact⟨x,hx,List.mem_filterMap.2 ⟨y,hy,e⟩⟩
end
end Go.Via
namespace Go.Via
open Go
theorem qbQ(x y:Rat):yV ⟨x,0,y,0⟩= .agg #[.bool (decide (x.num<0)),.string (bP x.num.natAbs),.bool false,.string (dm x),aZ,bf,aZ,bf,.bool (decide (y.num<0)),.string (bP y.num.natAbs),.bool false,.string (dm y),aZ,bf,aZ,bf]:=by
 unfold yV;have e1:decide ((0:Rat).num<0)=false:=ax
 have e2:bP (0:Rat).num.natAbs=⟨#[]⟩:=iW;have e3:dm (0:Rat)=⟨#[]⟩:=rfl;simp only[e1,e2,e3]
end Go.Via
