/-
  Part 21 (chapter 32): lemmas, walks. Each theorem states its own conditions.
-/
import GoSem.Core.World
import Derived.MapKept
import Derived.WalkKit
import Derived.WalkSpells
import Derived.WalkLawsBesides
import Derived.Deep.LoopGhost
import Derived.Deep.AppendSrc
import Derived.Laws.BytesArg
import Derived.Laws.CopyRow
import Derived.Laws.AppendOwn
import Derived.Deep.Upon
import Derived.Test.YtaffcpfhedadhaaGreatDoorProg
import Derived.Shelf.Strings.Builder1
import Derived.Shelf.Strings.Builder2
import Derived.Shelf.Small.Utf8
import Derived.Shelf.Small.Bits
import Derived.Shelf.Small.Strs
import Derived.Shelf.Small.Wraps
import Derived.Shelf.Strings.BuilderF
import Derived.Shelf.Strconv.Itoa0
import Derived.Shelf.Strings.Search1
import Derived.Shelf.Strings.Prefix
import Derived.Shelf.Strings.Runes
import Derived.Shelf.Strings.AsciiSet
import Derived.Shelf.Bits.Mul64
import Derived.Shelf.Strings.Repeat
import Derived.Shelf.Unicode.DecodeSlow
import Derived.Laws.Externs
import Derived.Lib.ItoaNum
import Derived.Lib.Repeat
import Derived.Test.YtaffcpfhedadhaaGreatDoorA09
import Derived.Test.YtaffcpfhedadhaaGreatDoorA20
set_option linter.all false
set_option maxRecDepth 20000
set_option maxHeartbeats 20000000
section
variable{P Q:Prop}{T:Type}{R:T->Prop}
def qeX(h:P:=by cases c<;>cases d<;>simp<;>omega):=h
def qlb(h:P:=by dsimp only;rw[PO T ha ht,PO T hb ht]):=h
def eX(h:P:=by decide+kernel):=h
def Vf(h:P:=by rcases h with h|h;exact absurd h.1 h0;exact h.2):=h
end
namespace Go.Via
variable[Mo]
open Go Go.RowKit
theorem kQ{m n:Nat}:0<=mO m n↔n<=m:=by
 unfold mO
 by_cases h1:m<n
 ·rw[if_pos h1];omega
 ·rw[if_neg h1]
  by_cases h2:n<m
  ·rw[if_pos h2];omega
  ·rw[if_neg h2];omega
def wP{m n:Nat}:mO m n<=0↔m<=n:=by
 unfold mO
 by_cases h1:m<n
 ·rw[if_pos h1];omega
 ·rw[if_neg h1]
  by_cases h2:n<m
  ·rw[if_pos h2];omega
  ·rw[if_neg h2];omega
theorem FU{m n:Nat}:mO m n<0↔m<n:=by
 unfold mO
 by_cases h1:m<n
 ·rw[if_pos h1];omega
 ·rw[if_neg h1]
  by_cases h2:n<m
  ·rw[if_pos h2];omega
  ·rw[if_neg h2];omega
def qeY{a b:Nat}(x:SR (nb a)):(SR (nb (a/b))×SR (nb (a%b))) ⊕ PLift (a<b)->Value
 | .inl z=> .tuple #[z.1.v,z.2.v]
 | .inr _=> .tuple #[.slice none 0 0,x.v]
def Rx{a b:Nat}:(SR (nb (a/b))×SR (nb (a%b))) ⊕ PLift (a<b)->List aH
 | .inl z=>[⟨z.1.b,3,NV .i64 (D8 (a/b)),z.1.n,true⟩,⟨z.2.b,3,NV .i64 (D8 (a%b)),z.2.n,true⟩]
 | .inr _=>[]
def rF{B:Bs}{X:Act->World->Prop}{nt:Nat}{t:List (Nat×Value)}{L:List aH}{b:aH}(k:Nat)(hk:L[k]? =some b)(h:(b.base=none->b.cs=[])->At B ⟨nt,t,L⟩ X):At B ⟨nt,t,L⟩ X:=
 fun a w hr=>h (fun hb=>((hr.mem.blk k b hk).2 hb).1) a w hr
def qeZ{P:Program}{bl:List Nat}{ops:Array Oper}{K:St->Prop}{rest:List Oper}{nt:Nat}{t:List (Nat×Value)}{L:List aH}{d:Nat}{ty:TypeId}{pos:String}{af:Array Edge}{g:Option (Nat×Bool)}{x y:Operand}
 {T e:Nat}{z:Value}{gx:Nat}{d0 R:Nat}{ob:Option Nat}{oN oc:Nat}{o2:Bool}(k k2:Nat)(mk:Option Nat->Nat->List aH)(hT:P.underlying T=some (.slice e))(hi:Oq P e 1 z)(hd:Nat.blt d nt=true)
 (hg:aB ops ⟨some d,.call {callee:= .builtin .append,args:= #[x,y],argTypes:= #[T,T]},ty,pos,af,g⟩ t=some true)
 (hk:L[k]? =some ⟨some gx,e,[.int .i64 (d0:Nat)],1,true⟩)(hx:ev t x=some (aA (some gx) 0 1 1))(hk2:L[k2]? =some ⟨ob,3,NV .i64 (D8 R),oN,o2⟩)(hb:ob=none->NV .i64 (D8 R)=[])(hy:ev t y=some (aA ob 0 (nb R) oc))
 (hzs:z.cells.size=1)(hmax:nb R<=1073741824)(hL:∀b n,L.set k ⟨b,e,NV .i64 (d0::D8 R),n,true⟩=mk b n)
 (h:∀r:SR (nb R+1),aW P bl ops rest ⟨nt,(d,r.v)::t,mk r.b r.n⟩ K):
 aW P bl ops (⟨some d,.call {callee:= .builtin .append,args:= #[x,y],argTypes:= #[T,T]},ty,pos,af,g⟩::rest) ⟨nt,t,L⟩ K:=by
 by_cases h0:nb R=0
 ·have hD:D8 R=[]:=List.eq_nil_of_length_eq_zero (by rw[jR];exact h0);have:=h ⟨some gx,1,1,ae⟩;rw[<-hL] at this;unfold SR.v at this;simp only[h0,hD] at this;have e1:L.set k ⟨some gx,e,NV .i64 [d0],1,true⟩=L:=by
   obtain⟨hlt,he⟩:=List.getElem?_eq_some_iff.1 hk;exact(congrArg (L.set k) he.symm).trans (List.set_getElem_self hlt)
  rw[e1] at this;obtain⟨inf,i1,i2,i3,i5⟩:=Am hi;rw[h0] at hy;exact qbk hT i1 hd hg hx (Nat.le_refl 1) hy this
 ·obtain⟨g2,rfl⟩:∃g2,ob=some g2:=by
   cases ob with
   |none=>
    have:=congrArg List.length (hb rfl);rw[gY,jR] at this;exact absurd this h0
   |some g2=>exact⟨g2,rfl⟩
  refine mV (s:=1) (len:=1) (n2:=nb R) k k2 (fun r=>mk (some r.g) r.n) hT hi hd hg hk rfl rfl hx hk2 rfl hy rfl hzs (by simpa using(by omega:0<nb R)) rfl (Nat.le_refl _) (Nat.le_refl _) (by rw[gY,jR];omega) (He _ _) ae (fun r=>?_) (fun r=>?_)
  ·rw[<-hL];rfl
  ·have h1:=h ⟨some r.g,r.n,r.cap,by have:=r.h;omega⟩;unfold SR.v at h1;have e:aA (some r.g) 0 (1+nb R) r.cap=aA (some r.g) 0 (nb R+1) r.cap:=congrArg (fun n=>aA (some r.g) 0 n r.cap) (Nat.add_comm 1 (nb R));rw[e];exact h1
theorem ZT(a b q:Nat):val 256 (a/256^q%256::D8 (a/256^(q+1)%b))=Hy a b q:=qjj _ _ (lZ _)
def CB(a b q:Nat):∀d∈a/256^q%256::D8 (a/256^(q+1)%b),d<256:=fun d hd=>by
 rcases List.mem_cons.1 hd with rfl|hd
 ·exact lZ _
 ·exact qla _ d hd
theorem LX(a b q:Nat):(ai 256 (val 256 (a/256^q%256::D8 (a/256^(q+1)%b)))).length=nb (Hy a b q):=by rw[ZT];rfl
def qe0(a b q:Nat):nb (Hy a b q)<=nb (a/256^(q+1)%b)+1:=by
 rw[<-LX];exact Nat.le_trans (jq ax (G5 ax (CB a b q))) (by simp[jR])
def Vg(a b q:Nat):NV .i64 (D8 (Hy a b q))=(NV .i64 (a/256^q%256::D8 (a/256^(q+1)%b))).take (nb (Hy a b q)):=by
 have:=yu (B:=256) ae (CB a b q);rw[ZT] at this;rw[Fa];congr 1;exact this.symm
theorem Ry(a b:Nat):a/256^nb a%b=0:=by rw[Nat.div_eq_of_lt (kH a),Nat.zero_mod]
def ZU(a b:Nat):NV .i64 (D8 (a/256^nb a%b))=[]:=by
 rw[Ry];have:D8 0=[]:=List.eq_nil_of_length_eq_zero (by rw[jR,kT]);rw[this];rfl
def Vh(a b:Nat):Value.slice none 0 0=aA none 0 (nb (a/256^nb a%b)) 0:=by rw[Ry,kT];rfl
def XB(a b q m k:Nat):Nat:=if k=q then m else TK a b (q+1) k
theorem qnt(a b q m:Nat):XB a b q m q=m:=by simp[XB]
def Vj(a b q k:Nat):XB a b q 0 k=TK a b (q+1) k:=by
 unfold XB
 split
 ·rename_i h;subst h;simp[TK]
 ·rfl
theorem qe1(a b q m m' k:Nat):XB a b q m' k=if k=q then m' else XB a b q m k:=by
 unfold XB;split<;>rfl
def qjp(a b q k:Nat):XB a b q (a/b/256^q%256) k=TK a b q k:=by
 unfold XB TK
 by_cases h:k=q
 ·subst h;simp
 ·rw[if_neg h]
  by_cases c:k<q
  ·rw[if_pos c,if_pos ae]
  ·rw[if_neg c,if_neg ae]
theorem qjq(a b:Nat){k:Nat}(h:k<nb a):TK a b (nb a) k=0:=by unfold TK;rw[if_pos h]
def qe2(a b p k:Nat):TK a b p k<256:=by unfold TK;split<;>omega
theorem qjr(a b:Nat):val 256 (row (nb a) (TK a b 0))=a/b:=by
 have h:a/b<256^nb a:=Nat.lt_of_le_of_lt (Nat.div_le_self _ _) (kH a);rw[dh (g:=fun j=>a/b/256^j%256) (fun j hj=>by unfold TK;rw[if_neg ae]),pM 256 ax,Nat.mod_eq_of_lt h]
theorem Vk(a b:Nat):ai 256 (val 256 (row (nb a) (TK a b 0)))=D8 (a/b):=by rw[qjr];rfl
def qe3(a b:Nat):NV .i64 (D8 (a/b))=(NV .i64 (row (nb a) (TK a b 0))).take (nb (a/b)):=by
 have:=yu (B:=256) ae (kY (n:=nb a) (fun j=>qe2 a b 0 j));rw[Vk] at this;rw[Fa];congr 1;exact this.symm
def qe4{r b:Nat}(h:r<256*b):nb r<=nb b+1:=nP (by
 have:=kH b;rw[Nat.pow_succ];omega)
def ZV{a b p m r:Nat}(hb:0<b)(h:m*b+r=Hy a b p):nb r<=nb b+1:=qe4 (by have:=Xy a b p hb;have:=Nat.zero_le (m*b);omega)
end Go.Via
namespace Go.Via
theorem Rz:NV .i64 (D8 0)=[]:=by
 have:D8 0=[]:=List.eq_nil_of_length_eq_zero (by rw[jR,kT]);rw[this];rfl
end Go.Via
namespace Go.Via
variable[Mo]
open Go Go.RowKit
structure FS(bs:List (Option Nat))(len:Nat) where
 z:SR len
 o:Bool
 ho:o=true∨z.b∈bs
def LY{a b:Nat}(z:(SR (nb (a/b))×SR (nb (a%b))) ⊕ PLift (a<b)):∀c∈Rx z,c.own=true:=by
 intro c hc;cases z with
 |inl z=>
  simp only[Rx,List.mem_cons,List.mem_nil_iff,or_false] at hc;rcases hc with rfl|rfl<;>rfl
 |inr h=>cases hc
def qnu{B:Bs}{w:World}{L:List aH}{x y:aH}{c:aH}{o:Bool}{bb:Option Nat}(h:aX B L w)(k:Nat){b:aH}(hk:L[k]? =some b)(hb:b.base=bb)(hoo:b.own=o)(ho:o=true∨bb∈[x.base,y.base])(hc:c.base=bb):∀g,c.base=some g->B.own g∨∃b0∈[x,y],b0.base=some g:=by
 intro g hg;rcases ho with h1|h1
 ·exact .inl (QR h k hk (by rw[hoo];exact h1) g (by rw[hb,<-hc];exact hg))
 ·rw[hc] at hg;subst hg;simp only[List.mem_cons,List.mem_nil_iff,or_false] at h1;rcases h1 with h1|h1
  ·exact .inr ⟨x,bz,h1.symm⟩
  ·exact .inr ⟨y,bz,h1.symm⟩
def qb9{m n a b:Nat}(h:Nat.gcd m n=Nat.gcd a b):Nat.gcd n (m%n)=Nat.gcd a b:=by
 rw[<-h,Nat.gcd_comm m n,Nat.gcd_rec n m,Nat.gcd_comm (m%n) n]
def ZW{P:Program}{f a b:Nat}{x:SR (nb a)}{L0:List aH}{args:List Value}(hx:∀g,x.b=some g->∃b0∈L0,b0.base=some g)(hL0:L0[0]? =some ⟨x.b,3,NV .i64 (D8 a),x.n,false⟩)(h:cZ P f L0 args ((SR (nb (a/b))×SR (nb (a%b))) ⊕ PLift (a<b)) (qeY x) Rx):
 Hg P f L0 args (SR (nb (a/b))×SR (nb (a%b))) (fun z=> .tuple #[z.1.v,z.2.v]) (fun z=>[⟨z.1.b,3,NV .i64 (D8 (a/b)),z.1.n,false⟩,⟨z.2.b,3,NV .i64 (D8 (a%b)),z.2.n,false⟩]):=by
 refine⟨h.1,fun w hL=>(h.2 w hL).mono ?_⟩
 rintro e w' ⟨z,rfl,hz⟩;cases z with
 |inl z=>
  refine⟨z,rfl,hz.un,fun c hc g hg=> .inl ?_⟩
  simp only[List.mem_cons,List.mem_nil_iff,or_false] at hc;rcases hc with rfl|rfl
  ·exact EQ (QR hz 0 rfl rfl g hg)
  ·exact EQ (QR hz 1 rfl rfl g hg)
 |inr hlt=>
  have hlt:=hlt.down;refine⟨(⟨none,0,0,by rw[Nat.div_eq_of_lt hlt,kT];exact Nat.le_refl _⟩,⟨x.b,x.n,x.cap,by rw[Nat.mod_eq_of_lt hlt];exact x.h⟩),?_,?_,fun c hc g hg=>?_⟩
  ·show Ending.returned (.tuple #[Value.slice none 0 0,aA x.b 0 (nb a) x.cap])=Ending.returned (.tuple #[aA none 0 (nb (a/b)) 0,aA x.b 0 (nb (a%b)) x.cap]);rw[Nat.div_eq_of_lt hlt,Nat.mod_eq_of_lt hlt,kT];rfl
  ·refine(hL.same (hz:aX w [] w').below).picks [none,some 0] ⟨⟨rfl,by show NV .i64 (D8 (a/b))=[];rw[Nat.div_eq_of_lt hlt];exact Rz,rfl⟩,⟨_,hL0,bg (by show(⟨x.b,3,NV .i64 (D8 (a%b)),x.n,false⟩:aH)=⟨x.b,3,NV .i64 (D8 a),x.n,false⟩;rw[Nat.mod_eq_of_lt hlt])⟩,trivial⟩ rfl rfl
  ·simp only[List.mem_cons,List.mem_nil_iff,or_false] at hc;rcases hc with rfl|rfl
   ·cases hg
   ·exact .inr (hx g hg)
end Go.Via
namespace Go.Via
open Go
structure Iv where
 f:Rl
 t:Rl
 fo:Bool
 tp:Bool
deriving DecidableEq
abbrev pU:=Rl×Bool
def Oj(f l:pU):Iv:=⟨f.1,l.1,f.2,!l.2⟩
def Iv.b(i:Iv):pU:=(i.f,i.fo)
def Iv.e(i:Iv):pU:=(i.t,!i.tp)
structure dZ(S:Rl->Prop)(ρ:Rl->Int):Prop where
 lt:∀{x y},S x->S y->(aV x y<0↔ρ x<ρ y)
 gt:∀{x y},S x->S y->(0<aV x y↔ρ y<ρ x)
 inj:∀{x y},S x->S y->ρ x=ρ y->x=y
def aK(ρ:Rl->Int)(b:pU):Int:=2*ρ b.1+(if b.2=true then 1 else 0)
def RD{S:Rl->Prop}{ρ:Rl->Int}(T:dZ S ρ){a b:pU}(ha:S a.1)(hb:S b.1)(h:aK ρ a=aK ρ b):a=b:=by
 obtain⟨x,c⟩:=a;obtain⟨y,d⟩:=b;unfold aK at h;dsimp only at*;have:ρ x=ρ y∧c=d:=by cases c<;>cases d<;>simp at h ⊢ <;>omega
 rw[T.inj ha hb this.1,this.2]
def xB(a b:pU):Int:=if aV a.1 b.1≠0 then aV a.1 b.1 else if a.2=b.2 then 0 else if b.2=true then-1 else 1
theorem FV{S:Rl->Prop}{ρ:Rl->Int}(T:dZ S ρ){a b:pU}(ha:S a.1)(hb:S b.1):xB a b=yP (aK ρ a) (aK ρ b):=by
 have h1:=T.lt ha hb;have h2:=T.gt ha hb;have h3:=qV a.1 b.1;unfold xB yP aK;obtain⟨x,c⟩:=a;obtain⟨y,d⟩:=b;dsimp only at*
 generalize aV x y=z at*
 rcases h3 with h|h|h
 ·subst h;have:=h1.1 ax;rw[if_pos ax,if_pos qeX]
 ·subst h;have e:ρ x=ρ y:=by
   have a1:¬ρ x<ρ y:=fun e=>absurd (h1.2 e) ax
   have a2:¬ρ y<ρ x:=fun e=>absurd (h2.2 e) ax
   omega
  rw[e,if_neg ax];cases c<;>cases d<;>simp
  ·intro h;omega
  ·rw[if_neg ae,if_pos ae]
 ·subst h;have:=h2.1 ax;rw[if_pos ax,if_neg qeX,if_pos qeX]
def memB(ρ:Rl->Int)(l:List Iv)(c:Int):Bool:=l.any fun i=>decide (aK ρ i.b<=c)&&decide (c<aK ρ i.e)
def PN(here:Rl->Bool)(btw:Rl->Rl->Bool):Option pU->List Rl->List (pU×pU)
 |_,[]=>[]
 |some f,[t]=>[(f,(t,here t))]
 |none,[t]=>if here t=true then[((t,false),(t,true))] else[]
 |some f,t::u::ts=>
  if here t=true then(if btw t u=true then PN here btw (some f) (u::ts) else(f,(t,true))::PN here btw none (u::ts))
  else(f,(t,false))::PN here btw (if btw t u=true then some (t,true) else none) (u::ts)
 |none,t::u::ts=>
  if here t=true then(if btw t u=true then PN here btw (some (t,false)) (u::ts) else((t,false),(t,true))::PN here btw none (u::ts))
  else PN here btw (if btw t u=true then some (t,true) else none) (u::ts)
def nS:List Rl->List pU
 |[]=>[]
 |t::ts=>(t,false)::(t,true)::nS ts
def qnv(here:Rl->Bool)(btw:Rl->Rl->Bool)(g:pU->Bool):List Rl->Prop
 |[]=>True
 |[t]=>g (t,false)=here t∧g (t,true)=false
 |t::u::ts=>g (t,false)=here t∧g (t,true)=btw t u∧qnv here btw g (u::ts)
theorem FW{here:Rl->Bool}{btw:Rl->Rl->Bool}{g:pU->Bool}:∀{ts:List Rl} {st:Option pU},qnv here btw g ts->PN here btw st ts=gX g st (nS ts)
 |[],none,_=>rfl
 |[],some _,_=>rfl
 |[t],none,h=>by
  obtain⟨h1,h2⟩:=h;unfold nS nS gX PN;rw[h1];cases here t
  ·simp[gX,h2]
  ·simp[gX,h2]
 |[t],some f,h=>by
  obtain⟨h1,h2⟩:=h;unfold nS nS gX PN;rw[h1];cases here t
  ·simp[gX,h2]
  ·simp[gX,h2]
 |t::u::ts,none,h=>by
  obtain⟨h1,h2,h3⟩:=h;have ih:=fun st=>FW (st:=st) h3
  show _=gX g none ((t,false)::(t,true)::nS (u::ts));unfold PN gX;rw[h1];cases here t
  ·simp only[Bool.false_eq_true,if_false];rw[ih];unfold gX;rw[h2];cases btw t u<;>rfl
  ·simp only[if_true];unfold gX;rw[h2];cases btw t u
   ·simp only[Bool.false_eq_true,if_false];rw[ih]
   ·simp only[if_true];rw[ih]
 |t::u::ts,some f,h=>by
  obtain⟨h1,h2,h3⟩:=h;have ih:=fun st=>FW (st:=st) h3
  show _=gX g (some f) ((t,false)::(t,true)::nS (u::ts));unfold PN gX;rw[h1];cases here t
  ·simp only[Bool.false_eq_true,if_false];rw[ih];unfold gX;rw[h2];cases btw t u<;>rfl
  ·simp only[if_true];unfold gX;rw[h2];cases btw t u
   ·simp only[Bool.false_eq_true,if_false];rw[ih]
   ·simp only[if_true];rw[ih]
def Dw(l:List Iv):List (pU×Int×Int):=l.flatMap fun i=>[(i.b,1,0),(i.e,-1,0)]
def Jo(l:List Iv):List (pU×Int×Int):=l.flatMap fun i=>[(i.b,0,1),(i.e,0,-1)]
theorem IP{α:Type}{κ:α->Int}{c:Int}:∀{l m:List (α×Int×Int)},qw κ c (l++m)=qw κ c l+qw κ c m
 |[],m=>by simp[qw]
 |e::l,m=>by simp only[List.cons_append,qw];rw[IP (l:=l)];omega
theorem IQ{α:Type}{κ:α->Int}{c:Int}:∀{l m:List (α×Int×Int)},qA κ c (l++m)=qA κ c l+qA κ c m
 |[],m=>by simp[qA]
 |e::l,m=>by simp only[List.cons_append,qA];rw[IQ (l:=l)];omega
def qe5{α:Type}{κ:α->Int}{c:Int}{l m:List (α×Int×Int)}(h:l.Perm m):qw κ c l=qw κ c m∧qA κ c l=qA κ c m:=by
 induction h with
 |nil=>exact⟨rfl,rfl⟩
 |cons x _ ih=>unfold qw qA;rw[ih.1,ih.2];exact⟨rfl,rfl⟩
 |swap x y l=>simp only[qw,qA];omega
 |trans _ _ ih1 ih2=>exact⟨ih1.1.trans ih2.1,ih1.2.trans ih2.2⟩
def HY(ρ:Rl->Int)(l:List Iv):Prop:=∀i∈l,aK ρ i.b<aK ρ i.e
def HY.tail{ρ:Rl->Int}{i:Iv}{l:List Iv}(h:HY ρ (i::l)):HY ρ l:=fun x hx=>h x (List.mem_cons_of_mem _ hx)
def ZX{ρ:Rl->Int}{c:Int}:∀{l:List Iv},HY ρ l->0<=qw (aK ρ) c (Dw l)∧(0<qw (aK ρ) c (Dw l)↔memB ρ l c=true)∧qA (aK ρ) c (Dw l)=0
 |[],_=>by simp[Dw,qw,qA,memB]
 |i::l,h=>by
  obtain⟨h1,h2,h3⟩:=ZX (c:=c) h.tail;have hi:=h i (List.mem_cons_self ..);have e:Dw (i::l)=(i.b,1,0)::(i.e,-1,0)::Dw l:=rfl;rw[e];unfold qw qA qw qA;dsimp only;have em:memB ρ (i::l) c=((decide (aK ρ i.b<=c)&&decide (c<aK ρ i.e))||memB ρ l c):=rfl;rw[em,h3,Bool.or_eq_true,Bool.and_eq_true,decide_eq_true_eq,decide_eq_true_eq,<-h2]
  by_cases a1:aK ρ i.b<=c
  ·by_cases a2:aK ρ i.e<=c
   ·rw[if_pos a1,if_pos a2,if_pos a1,if_pos a2];omega
   ·rw[if_pos a1,if_neg a2,if_pos a1,if_neg a2];omega
  ·rw[if_neg a1,if_neg ae,if_neg a1,if_neg ae];omega
def ZY{ρ:Rl->Int}{c:Int}:∀{l:List Iv},HY ρ l->0<=qA (aK ρ) c (Jo l)∧(0<qA (aK ρ) c (Jo l)↔memB ρ l c=true)∧qw (aK ρ) c (Jo l)=0
 |[],_=>by simp[Jo,qw,qA,memB]
 |i::l,h=>by
  obtain⟨h1,h2,h3⟩:=ZY (c:=c) h.tail;have hi:=h i (List.mem_cons_self ..);have e:Jo (i::l)=(i.b,0,1)::(i.e,0,-1)::Jo l:=rfl;rw[e];unfold qw qA qw qA;dsimp only;have em:memB ρ (i::l) c=((decide (aK ρ i.b<=c)&&decide (c<aK ρ i.e))||memB ρ l c):=rfl;rw[em,h3,Bool.or_eq_true,Bool.and_eq_true,decide_eq_true_eq,decide_eq_true_eq,<-h2]
  by_cases a1:aK ρ i.b<=c
  ·by_cases a2:aK ρ i.e<=c
   ·rw[if_pos a1,if_pos a2,if_pos a1,if_pos a2];omega
   ·rw[if_pos a1,if_neg a2,if_pos a1,if_neg a2];omega
  ·rw[if_neg a1,if_neg ae,if_neg a1,if_neg ae];omega
theorem qjs{ρ:Rl->Int}{a b:List Iv}{keep:Bool->Bool->Bool}{l:List (pU×Int×Int)}(ha:HY ρ a)(hb:HY ρ b)(hp:l.Perm (Dw a++Jo b))(hs:l.Pairwise (fun x y=>aK ρ x.1<=aK ρ y.1)):
 Oh (aK ρ) keep l 0 0 none=gX (fun c=>keep (memB ρ a (aK ρ c)) (memB ρ b (aK ρ c))) none (wo (aK ρ) (l.map (·.1))):=by
 rw[TP hs];refine mr fun c _=>?_
 obtain⟨e1,e2⟩:=qe5 (κ:=aK ρ) (c:=aK ρ c) hp;obtain⟨_,a2,a3⟩:=ZX (c:=aK ρ c) ha;obtain⟨_,b2,b3⟩:=ZY (c:=aK ρ c) hb;rw[e1,e2,IP,IQ,a3,b3,Int.zero_add,Int.zero_add,Int.add_zero,Int.zero_add]
 congr 1
 ·rw[Bool.eq_iff_iff,decide_eq_true_eq];exact a2
 ·rw[Bool.eq_iff_iff,decide_eq_true_eq];exact b2
end Go.Via
namespace Go.Via
open Go
def inR(i:Iv)(t:Rl):Bool:=(decide (aV i.f t<0)||decide (aV i.f t=0)&& !i.fo)&&(decide (aV t i.t<0)||decide (aV t i.t=0)&& !i.tp)
def nT(l:List Iv)(t:Rl):Bool:=l.any fun i=>inR i t
def nU(l:List Iv)(a b:Rl):Bool:=l.any fun i=>decide (aV i.f a<=0)&&decide (aV b i.t<=0)
def bU(l:List Iv):List pU:=l.flatMap fun i=>[i.b,i.e]
def cu(l:List Iv):List Rl:=l.flatMap fun i=>[i.f,i.t]
def iU(S:Rl->Prop)(l:List Iv):Prop:=∀i∈l,S i.f∧S i.t
theorem eY{l:List Iv}{b:pU}:b∈bU l↔∃i∈l,b=i.b∨b=i.e:=by
 unfold bU;rw[List.mem_flatMap];simp
theorem mY{l:List Iv}{x:Rl}:x∈cu l↔∃i∈l,x=i.f∨x=i.t:=by
 unfold cu;rw[List.mem_flatMap];simp
def dZ.zero{S:Rl->Prop}{ρ:Rl->Int}(T:dZ S ρ){x y:Rl}(hx:S x)(hy:S y):aV x y=0↔ρ x=ρ y:=by
 have h1:=T.lt hx hy;have h2:=T.gt hx hy;rcases qV x y with h|h|h<;>rw[h] at h1 h2 ⊢ <;>simp at h1 h2 ⊢ <;>omega
theorem qjt{S:Rl->Prop}{ρ:Rl->Int}(T:dZ S ρ){i:Iv}{t:Rl}(hf:S i.f)(ht:S i.t)(h:S t):inR i t=(decide (aK ρ i.b<=aK ρ (t,false))&&decide (aK ρ (t,false)<aK ρ i.e)):=by
 have h1:=T.lt hf h;have h2:=T.lt h ht;have h3:=T.zero hf h;have h4:=T.zero h ht;unfold inR aK Iv.b Iv.e;rw[Bool.eq_iff_iff];simp only[Bool.and_eq_true,Bool.or_eq_true,decide_eq_true_eq,h1,h2,h3,h4];cases i.fo<;>cases i.tp<;>simp<;>omega
theorem PO{S:Rl->Prop}{ρ:Rl->Int}(T:dZ S ρ){l:List Iv}{t:Rl}(hl:iU S l)(h:S t):nT l t=memB ρ l (aK ρ (t,false)):=by
 unfold nT memB
 induction l with
 |nil=>rfl
 |cons i l ih=>
  rw[List.any_cons,List.any_cons,ih (fun x hx=>hl x (List.mem_cons_of_mem _ hx)),qjt T (hl i (List.mem_cons_self ..)).1 (hl i (List.mem_cons_self ..)).2 h]
theorem PP{S:Rl->Prop}{ρ:Rl->Int}(T:dZ S ρ){l:List Iv}{t u:Rl}(hl:iU S l)(h:S t)(hu:S u)(htu:ρ t<ρ u)(hn:∀x∈cu l,ρ x<=ρ t∨ρ u<=ρ x):nU l t u=memB ρ l (aK ρ (t,true)):=by
 unfold nU memB
 induction l with
 |nil=>rfl
 |cons i l ih=>
  have hi:=hl i (List.mem_cons_self ..);have n1:=hn i.t (mY.2 ⟨i,List.mem_cons_self ..,.inr rfl⟩);rw[List.any_cons,List.any_cons,ih (fun x hx=>hl x (List.mem_cons_of_mem _ hx)) (fun x hx=>by
 obtain⟨j,hj,e⟩:=mY.1 hx;exact hn x (mY.2 ⟨j,List.mem_cons_of_mem _ hj,e⟩))]
  congr 1
  have h1:=T.gt hi.1 h;have h2:=T.gt hu hi.2;unfold aK Iv.b Iv.e;rw[Bool.eq_iff_iff];simp only[Bool.and_eq_true,decide_eq_true_eq];have e1:aV i.f t<=0↔ρ i.f<=ρ t:=ae;have e2:aV u i.t<=0↔ρ u<=ρ i.t:=ae;rw[e1,e2];cases i.fo<;>cases i.tp<;>simp<;>omega
theorem o7{ρ:Rl->Int}{l:List Iv}{k1 k2:Int}(h:k1<=k2)(hn:∀b∈bU l,¬(k1<aK ρ b∧aK ρ b<=k2)):memB ρ l k1=memB ρ l k2:=by
 unfold memB
 induction l with
 |nil=>rfl
 |cons i l ih=>
  have n1:=hn i.b (eY.2 ⟨i,List.mem_cons_self ..,.inl rfl⟩);have n2:=hn i.e (eY.2 ⟨i,List.mem_cons_self ..,.inr rfl⟩);rw[List.any_cons,List.any_cons,ih fun b hb=>by
 obtain⟨j,hj,e⟩:=eY.1 hb;exact hn b (eY.2 ⟨j,List.mem_cons_of_mem _ hj,e⟩)]
  congr 1
  rw[Bool.eq_iff_iff];simp only[Bool.and_eq_true,decide_eq_true_eq];omega
theorem yz{ρ:Rl->Int}{l:List Iv}{k:Int}(hn:∀b∈bU l,k<aK ρ b):memB ρ l k=false:=by
 unfold memB;rw[List.any_eq_false];intro i hi;have:=hn i.b (eY.2 ⟨i,hi,.inl rfl⟩);simp only[Bool.and_eq_true,decide_eq_true_eq];omega
theorem CE{ρ:Rl->Int}{l:List Iv}{k:Int}(hn:∀b∈bU l,aK ρ b<=k):memB ρ l k=false:=by
 unfold memB;rw[List.any_eq_false];intro i hi;have:=hn i.e (eY.2 ⟨i,hi,.inr rfl⟩);simp only[Bool.and_eq_true,decide_eq_true_eq];omega
def XC{ρ:Rl->Int}{G:Int->Bool}{p:pU->Bool}{B:List pU}(hp:∀b,p b=true↔b∈B)(HG:∀k1 k2,k1<=k2->(∀b∈B,¬(k1<aK ρ b∧aK ρ b<=k2))->G k1=G k2):
 ∀{C:List pU} {lo:Int},C.Pairwise (fun a b=>aK ρ a<aK ρ b)->(∀c∈C,lo<aK ρ c)->(∀b∈B,aK ρ b<=lo∨b∈C)->Chk (fun c=>G (aK ρ c)) p (G lo) C
 |[],_,_,_,_=>trivial
 |c::cs,lo,hs,hlo,hB=>by
  obtain⟨s1,s2⟩:=List.pairwise_cons.1 hs;have hc:=hlo c (List.mem_cons_self ..);refine⟨?_,XC hp HG s2 (fun x hx=>s1 x hx) fun b hb=>?_⟩
  ·by_cases hpc:p c=true
   ·exact .inl hpc
   ·refine .inr (HG lo (aK ρ c) ae fun b hb hk=>?_).symm
    rcases hB b hb with h|h
    ·omega
    ·rcases List.mem_cons.1 h with h|h
     ·subst h;exact hpc ((hp b).2 hb)
     ·have:=s1 b h;omega
  ·rcases hB b hb with h|h
   ·exact .inl ae
   ·rcases List.mem_cons.1 h with h|h
    ·subst h;exact .inl (Int.le_refl _)
    ·exact .inr h
theorem qW:∀{ts:List Rl} {b:pU},b∈nS ts↔b.1∈ts
 |[],b=>by simp[nS]
 |t::ts,(x,c)=>by
  unfold nS;rw[List.mem_cons,List.mem_cons,qW (ts:=ts),List.mem_cons];dsimp only
  constructor
  ·rintro(h|h|h)
   ·cases h;exact .inl rfl
   ·cases h;exact .inl rfl
   ·exact .inr h
  ·rintro(h|h)
   ·subst h;cases c;exact .inl rfl;exact .inr (.inl rfl)
   ·exact .inr (.inr h)
theorem nO{ρ:Rl->Int}:∀{ts:List Rl},ts.Pairwise (fun a b=>ρ a<ρ b)->(nS ts).Pairwise (fun a b=>aK ρ a<aK ρ b)
 |[],_=>List.Pairwise.nil
 |t::ts,h=>by
  obtain⟨h1,h2⟩:=List.pairwise_cons.1 h;unfold nS;refine List.pairwise_cons.2 ⟨fun b hb=>?_,List.pairwise_cons.2 ⟨fun b hb=>?_,nO h2⟩⟩
  ·rcases List.mem_cons.1 hb with e|e
   ·subst e;unfold aK;simp;omega
   ·have:=h1 b.1 (qW.1 e);unfold aK;simp;split<;>omega
  ·have:=h1 b.1 (qW.1 hb);unfold aK;simp;split<;>omega
theorem RF{S:Rl->Prop}{ρ:Rl->Int}(T:dZ S ρ){op:Bool->Bool->Bool}(h0:op false false=false){a b:List Iv}(ha:iU S a)(hb:iU S b):
 ∀{ts pre:List Rl},(∀t∈ts,S t)->ts.Pairwise (fun x y=>ρ x<ρ y)->(∀x∈cu a++cu b,x∈ts∨∀t∈ts,ρ x<ρ t)->(∀i∈a++b,S i.f)->
 qnv (fun t=>op (nT a t) (nT b t)) (fun t u=>op (nU a t u) (nU b t u)) (fun c=>op (memB ρ a (aK ρ c)) (memB ρ b (aK ρ c))) ts
 |[],_,_,_,_,_=>trivial
 |[t],_,hS,hs,he,hf=>by
  have ht:=hS t (List.mem_cons_self ..);refine⟨qlb,?_⟩;have hi:∀l:List Iv,(∀x∈cu l,x∈[t]∨∀u∈[t],ρ x<ρ u)->∀c∈bU l,aK ρ c<=aK ρ (t,true):=fun l hl c hc=>by
   obtain⟨i,hi,e⟩:=eY.1 hc;have hx:c.1∈cu l:=mY.2 ⟨i,hi,by rcases e with e|e<;>subst e;exact .inl rfl;exact .inr rfl⟩
   have:ρ c.1<=ρ t:=by
    rcases hl c.1 hx with h|h
    ·rw[List.mem_singleton] at h;rw[h];exact Int.le_refl _
    ·have:=h t (List.mem_cons_self ..);omega
   unfold aK;simp;split<;>omega
  dsimp only;rw[CE (hi a fun x hx=>he x (List.mem_append_left _ hx)),CE (hi b fun x hx=>he x (List.mem_append_right _ hx)),h0]
 |t::u::ts,pre,hS,hs,he,hf=>by
  obtain⟨s1,s2⟩:=List.pairwise_cons.1 hs;have ht:=hS t (List.mem_cons_self ..);have hu:=hS u (List.mem_cons_of_mem _ (List.mem_cons_self ..));have htu:=s1 u (List.mem_cons_self ..);have hn:∀x∈cu a++cu b,ρ x<=ρ t∨ρ u<=ρ x:=fun x hx=>by
   rcases he x hx with h|h
   ·rcases List.mem_cons.1 h with h|h
    ·rw[h];exact .inl (Int.le_refl _)
    ·rcases List.mem_cons.1 h with h|h
     ·rw[h];exact .inr (Int.le_refl _)
     ·have:=(List.pairwise_cons.1 s2).1 x h;exact .inr ae
   ·have:=h t (List.mem_cons_self ..);exact .inl ae
  refine⟨qlb,?_,RF T h0 ha hb (pre:=pre) (fun x hx=>hS x (List.mem_cons_of_mem _ hx)) s2 (fun x hx=>?_) hf⟩
  ·dsimp only;rw[PP T ha ht hu htu fun x hx=>hn x (List.mem_append_left _ hx),PP T hb ht hu htu fun x hx=>hn x (List.mem_append_right _ hx)]
  ·rcases he x hx with h|h
   ·rcases List.mem_cons.1 h with h|h
    ·right;intro y hy;rw[h];exact s1 y hy
    ·exact .inl h
   ·exact .inr fun y hy=>h y (List.mem_cons_of_mem _ hy)
theorem XD{S:Rl->Prop}{ρ:Rl->Int}(T:dZ S ρ){op:Bool->Bool->Bool}(h0:op false false=false){a b:List Iv}(ha:iU S a)(hb:iU S b)(oa:HY ρ a)(ob:HY ρ b)
 {ends:List Rl}(hs:ends.Pairwise (fun x y=>ρ x<ρ y))(he:∀x,x∈ends↔x∈cu a++cu b)
 {l:List (pU×Int×Int)}(hp:l.Perm (Dw a++Jo b))(hl:l.Pairwise (fun x y=>aK ρ x.1<=aK ρ y.1)):
 Oh (aK ρ) op l 0 0 none=PN (fun t=>op (nT a t) (nT b t)) (fun t u=>op (nU a t u) (nU b t u)) none ends:=by
 have hES:∀x∈cu a++cu b,S x:=fun x hx=>by
  rcases List.mem_append.1 hx with h|h
  ·obtain⟨i,hi,e⟩:=mY.1 h;rcases e with e|e<;>subst e;exact(ha i hi).1;exact(ha i hi).2
  ·obtain⟨i,hi,e⟩:=mY.1 h;rcases e with e|e<;>subst e;exact(hb i hi).1;exact(hb i hi).2
 have hS:∀t∈ends,S t:=fun t ht=>hES t ((he t).1 ht)
 rw[qjs oa ob hp hl,FW (RF T h0 ha hb (pre:=[]) hS hs (fun x hx=> .inl ((he x).2 hx)) (fun i hi=>by
 rcases List.mem_append.1 hi with h|h;exact(ha i h).1;exact(hb i h).1))]
 have hsc:=nO (ρ:=ρ) hs;have hmB:∀b':pU,b'∈bU a++bU b->b'∈nS ends:=fun b' h=>by
  refine qW.2 ((he _).2 ?_);rcases List.mem_append.1 h with h|h
  ·obtain⟨i,hi,e⟩:=eY.1 h;refine List.mem_append_left _ (mY.2 ⟨i,hi,?_⟩);rcases e with e|e<;>subst e;exact .inl rfl;exact .inr rfl
  ·obtain⟨i,hi,e⟩:=eY.1 h;refine List.mem_append_right _ (mY.2 ⟨i,hi,?_⟩);rcases e with e|e<;>subst e;exact .inl rfl;exact .inr rfl
 obtain⟨lo,hlo⟩:∃lo:Int,∀c∈nS ends,lo<aK ρ c:=by
  generalize nS ends=C
  clear hmB hsc
  induction C with
  |nil=>exact⟨0,fun c hc=>absurd hc bz⟩
  |cons c C ih=>
   obtain⟨lo,h⟩:=ih;refine⟨min lo (aK ρ c-1),fun x hx=>?_⟩
   rcases List.mem_cons.1 hx with e|e
   ·subst e;omega
   ·have:=h x e;omega
 have hG0:op (memB ρ a lo) (memB ρ b lo)=false:=by
  rw[yz fun c hc=>hlo c (hmB c (List.mem_append_left _ hc)),yz fun c hc=>hlo c (hmB c (List.mem_append_right _ hc)),h0]
 have hchk:=XC (ρ:=ρ) (G:=fun k=>op (memB ρ a k) (memB ρ b k)) (p:=fun c=>decide (c∈bU a++bU b)) (B:=bU a++bU b) (fun c=>by rw[decide_eq_true_eq]) (fun k1 k2 hk hn=>by
 rw[o7 hk fun c hc=>hn c (List.mem_append_left _ hc),o7 (l:=b) hk fun c hc=>hn c (List.mem_append_right _ hc)]) (lo:=lo) hsc hlo (fun c hc=> .inr (hmB c hc))
 rw[hG0] at hchk;rw[oW (st:=none) hchk]
 congr 1
 refine yL (κ:=aK ρ) ?_ ?_ fun c=>?_
 ·exact GY (List.pairwise_map.2 hl)
 ·exact hsc.filter _
 ·have hev:∀c:pU,c∈(Dw a++Jo b).map (·.1)↔c∈bU a++bU b:=fun c=>by
   rw[List.map_append,List.mem_append,List.mem_append];have e1:∀m:List Iv,c∈(Dw m).map (·.1)↔c∈bU m:=fun m=>by
    unfold Dw bU;rw[List.map_flatMap];rfl
   have e2:∀m:List Iv,c∈(Jo m).map (·.1)↔c∈bU m:=fun m=>by
    unfold Jo bU;rw[List.map_flatMap];rfl
   rw[e1,e2]
  have hlm:c∈l.map (·.1)↔c∈bU a++bU b:=(by rw[<-hev];exact(hp.map _).mem_iff);rw[List.mem_filter,decide_eq_true_eq]
  constructor
  ·intro h;have h1:=hlm.1 (yc h);exact⟨hmB c h1,h1⟩
  ·intro h;refine BQ (fun x hx y hy e=>?_) (hlm.2 h.2);have m1:S x.1:=hS _ (qW.1 (hmB x (by rw[<-hev];exact(hp.map _).mem_iff.1 hx)));have m2:S y.1:=hS _ (qW.1 (hmB y (by rw[<-hev];exact(hp.map _).mem_iff.1 hy)));exact RD T m1 m2 e
end Go.Via
namespace Go.Via
open Go
def FX:Nat->Nat->Nat
 |0,_=>0
 |k+1,n=>let s:=2*FX k (n/4);if(s+1)*(s+1)<=n then s+1 else s
def bV(n:Nat):Nat:=FX (n.log2+1) n
def LZ:∀(k n:Nat),n<4^k->FX k n*FX k n<=n∧n<(FX k n+1)*(FX k n+1)
 |0,n,h=>by simp at h;subst h;simp[FX]
 |k+1,n,h=>by
  have ih:=LZ k (n/4) (by rw[Nat.pow_succ] at h;omega);unfold FX
  generalize FX k (n/4)=s at ih ⊢
  dsimp only;obtain⟨h1,h2⟩:=ih;have e1:(2*s)*(2*s)=4*(s*s):=dY
  have e2:(2*s+1+1)*(2*s+1+1)=4*((s+1)*(s+1)):=dY
  split
  ·rename_i h3
   refine⟨h3,?_⟩;rw[e2];omega
  ·rename_i h3
   rw[e1];refine⟨ae,ae⟩
def L6(n:Nat):bV n*bV n<=n∧n<(bV n+1)*(bV n+1):=by
 refine LZ _ n ?_;have h:n<2^(n.log2+1):=Nat.lt_log2_self;exact Nat.lt_of_lt_of_le h (Nat.pow_le_pow_left ax _)
def XE{a b:Nat}(h:a*a<b*b):a<b:=by
 refine Nat.lt_of_not_le fun h1=>?_
 have:=Nat.mul_le_mul h1 h1;omega
def Ei{n k:Nat}(h1:k*k<=n)(h2:n<(k+1)*(k+1)):bV n=k:=by
 obtain⟨a,b⟩:=L6 n;have c1:=XE (Nat.lt_of_le_of_lt a h2);have c2:=XE (Nat.lt_of_le_of_lt h1 b);omega
theorem Vl(k:Nat):bV (k*k)=k:=Ei (Nat.le_refl _) (by
 have:(k+1)*(k+1)=k*k+2*k+1:=dY;omega)
def qca{a x:Nat}(hx:0<x):a<((x+a/x)/2+1)*((x+a/x)/2+1):=by
 generalize hq:a/x=q
 generalize hm:(x+q)/2=m
 have h1:a<x*(q+1):=by
  have:=Nat.lt_mul_div_succ a hx;rw[hq] at this;exact this
 have h2:x+q+1<=2*m+2:=ae
 have h3:4*(x*(q+1))<=(x+(q+1))*(x+(q+1)):=by
  rcases Nat.le_total x (q+1) with h|h
  ·obtain⟨d,e⟩:=Nat.exists_eq_add_of_le h;rw[e];have:=Nat.zero_le (d*d);grind
  ·obtain⟨d,e⟩:=Nat.exists_eq_add_of_le h;rw[e];have:=Nat.zero_le (d*d);grind
 have h4:=Nat.mul_le_mul h2 h2;have e:(2*m+2)*(2*m+2)=4*((m+1)*(m+1)):=dY;have e2:x+(q+1)=x+q+1:=ae;rw[e2] at h3;omega
def XF{a x:Nat}(hx:0<x)(h:a<(x+1)*(x+1))(hn:x<=(x+a/x)/2):bV a=x:=by
 refine Ei ?_ h;have h1:x<=a/x:=ae
 exact(Nat.le_div_iff_mul_le hx).1 h1
def XG{a x:Nat}(ha:0<a)(hx:0<x):0<(x+a/x)/2:=by
 by_cases h:x=1
 ·subst h;rw[Nat.div_one];omega
 ·generalize a/x=q
  omega
def qE(q:Rat):Bool:=decide (0<=q.num)&&(bV q.num.natAbs*bV q.num.natAbs==q.num.natAbs)&&(bV q.den*bV q.den==q.den)
def fQ(q:Rat):Rat:=Rat.divInt (bV q.num.natAbs) (bV q.den)
theorem FY:qE 0=true:=eX
theorem Ej:fQ 0=0:=eX
structure Qd where
 c0:Rat
 c1:Rat
 c2:Rat
deriving DecidableEq
def sG(f:Qd)(t:Rat):Rat:=f.c0+t*(f.c1+t*f.c2)
def uz(f:Qd)(t:Rat):Rat:=f.c1+(f.c2+f.c2)*t
def mkR(p q r:Rat):Rl:=if qE r=true then rl (p+q*fQ r) else⟨p,q*q*r,decide (dD q<0)⟩
def Be(f:Qd)(t:Rl):Rl:=mkR (sG f t.p+f.c2*t.r) (if t.n=true then-uz f t.p else uz f t.p) t.r
theorem uQ(f:Qd)(q:Rat):Be f (rl q)=rl (sG f q):=by
 unfold Be mkR rl;dsimp only;rw[FY,if_pos rfl,Ej];have e:sG f q+f.c2*0+(if false=true then-uz f q else uz f q)*0=sG f q:=dY
 rw[e]
def Rl.ok(x:Rl):Prop:=(x.r=0∧x.n=false)∨(0<x.r∧qE x.r=false)
theorem XH(x:Rat):qE (x*x)=true:=by
 have hg:Nat.gcd (x.num*x.num).natAbs (x.den*x.den)=1:=by
  rw[Int.natAbs_mul];exact Nat.Coprime.mul_left (Nat.Coprime.mul_right x.reduced x.reduced) (Nat.Coprime.mul_right x.reduced x.reduced)
 have e:x*x=⟨x.num*x.num,x.den*x.den,Nat.mul_ne_zero x.den_nz x.den_nz,hg⟩:=by
  rw[Rat.mul_def];exact(Rat.mk_eq_normalize _ _ (Nat.mul_ne_zero x.den_nz x.den_nz) hg).symm
 rw[e];unfold qE;dsimp only;rw[Int.natAbs_mul,Vl,Vl];have:0<=x.num*x.num:=by
  rcases Int.le_total 0 x.num with h|h
  ·exact Int.mul_nonneg h h
  ·exact Int.mul_nonneg_of_nonpos_of_nonpos h h
 simp[this]
def PQ(q:Rat):(rl q).ok:= .inl ⟨rfl,rfl⟩
def Rl.ok.r0{x:Rl}(h:x.ok):0<=x.r:=by rcases h with h|h<;>grind
theorem Rl.ok.rat{x:Rl}(h:x.ok)(h0:x.r=0):x=rl x.p:=by
 rcases h with h|h
 ·cases x;simp only[rl] at*;obtain⟨h1,h2⟩:=h;subst h1;subst h2;rfl
 ·grind
theorem Mc{f:Qd}{t:Rl}(h:t.ok)(h0:t.r≠0):Be f t=⟨sG f t.p+f.c2*t.r,uz f t.p*uz f t.p*t.r,decide (dD (jI t*uz f t.p)<0)⟩:=by
 unfold Be mkR;have hs:qE t.r=false:=Vf
 rw[hs,if_neg ax];unfold jI;cases t.n
 ·simp only[Bool.false_eq_true,if_false];rw[Rat.one_mul]
 ·simp only[if_true];have e1: -uz f t.p* -uz f t.p=uz f t.p*uz f t.p:=dY
  have e2: -1*uz f t.p= -uz f t.p:=dY;rw[e1,e2]
theorem XI{x:Rl}{q:Rat}(hx:0<=x.r):aV x (rl q)<=0↔nn x.r (q-x.p) (-jI x):=by
 rw[FT,qns hx];have: -(x.p-q)=q-x.p:=dY
 rw[this]
theorem JU{x:Rl}{q:Rat}(hx:0<=x.r):aV (rl q) x<=0↔nn x.r (x.p-q) (jI x):=by
 rw[nM,FT];rw[<-qnr (a:=x.p-q) (b:=jI x) hx];omega
theorem qpR{r u s:Rat}{n:Bool}(hn:n=decide (dD s<0)):nn (s*s*r) u (if n=true then 1 else-1)↔nn r u (-s):=by
 subst hn;unfold nn;rcases dV s with⟨h,e⟩|⟨h,e⟩|⟨h,e⟩<;>rw[e]
 ·rw[if_neg ax];grind
 ·rw[if_pos ax];grind
 ·subst h;rw[if_neg ax];have e1: -(0:Rat)* -0*r=0:=dY
  have e2:(0:Rat)*0*r=0:=dY;have e3:(-1:Rat)* -1*(0*0*r)=0:=dY;rw[e1,e3];have hu:u*u<=0->u=0:=fun h=>by
   have:=pG u;rcases Rat.mul_eq_zero.1 (show u*u=0 by grind) with h|h<;>exact h
  have hp:=pG u
  constructor
  ·rintro(h|h)
   ·exact .inl h
   ·exact absurd h.1 dY
  ·rintro(h|h)
   ·exact .inl h
   ·exact .inl ⟨by rw[hu h.2];grind,hp⟩
theorem qnw{f:Qd}{t:Rl}{M:Rat}(h:t.ok)(h0:t.r≠0):aV (Be f t) (rl M)<=0↔nn t.r (M-(sG f t.p+f.c2*t.r)) (-(jI t*uz f t.p)):=by
 rw[Mc h h0,XI]
 ·unfold jI;dsimp only;have e:uz f t.p*uz f t.p*t.r=((if t.n=true then-1 else 1)*uz f t.p)*((if t.n=true then-1 else 1)*uz f t.p)*t.r:=by split<;>grind
  rw[e,<-qpR (s:=((if t.n=true then-1 else 1)*uz f t.p)) rfl]
  generalize(if t.n=true then(-1:Rat) else 1)*uz f t.p=s
  have e3: -(if decide (dD s<0)=true then(-1:Rat) else 1)=if decide (dD s<0)=true then 1 else-1:=by split<;>grind
  rw[e3]
 ·dsimp only;exact fC (pG _) h.r0
def qnx{f:Qd}{t:Rl}{a b M:Rat}(h:t.ok)(h2:0<=f.c2)(ha:aV (rl a) t<=0)(hb:aV t (rl b)<=0)(fa:sG f a<=M)(fb:sG f b<=M):aV (Be f t) (rl M)<=0:=by
 by_cases h0:t.r=0
 ·have e:=h.rat h0;rw[e] at ha hb ⊢;rw[pO,Ze] at ha hb;rw[uQ,pO,Ze]
  generalize t.p=x at*
  refine Rat.not_lt.1 fun hl=>?_
  have p1:=fC h2 (fC (show 0<=x-a by grind) (show 0<=b-x by grind));unfold sG at*
  by_cases hab:a=b
  ·have:x=a:=dY
   subst this;grind
  ·have d:0<b-a:=dY
   have q1:=fC (show 0<=x-a by grind) (show 0<=M-(f.c0+b*(f.c1+b*f.c2)) by grind);have q2:=fC (show 0<=b-x by grind) (show 0<=M-(f.c0+a*(f.c1+a*f.c2)) by grind);have q3:=qH d (show 0<(f.c0+x*(f.c1+x*f.c2))-M by grind);have q4:=fC (show 0<=b-a by grind) p1
   grind
 ·have hr:=h.r0;rw[qnw h h0];rw[JU hr] at ha;rw[XI hr] at hb;have hab:0<b-a:=by
   have s:=QB hr ha hb;have e1:t.p-a+(b-t.p)=b-a:=dY;have e2:jI t+ -jI t=0:=dY;rw[e1,e2] at s;have hge:0<=b-a:=by
    rcases s with s|s
    ·exact s.1
    ·have:(b-a)*(b-a)<=0*0:=dY
     have:=EN (show(0:Rat)<=0 by grind) this
     grind
   by_cases hz:b=a
   ·exfalso
    subst hz;have hf:=Hz t;have e:t.r=(t.p-b)*(t.p-b):=by
     unfold nn at ha hb;have g1:jI t*jI t*t.r=t.r:=by rw[hf];grind
     have g2: -jI t* -jI t*t.r=t.r:=dY;rw[g1] at ha;rw[g2] at hb;rcases dV (t.p-b) with⟨g,_⟩|⟨g,_⟩|⟨g,_⟩<;>rcases ha with ha|ha<;>rcases hb with hb|hb<;>grind
    have hs:qE t.r=false:=Vf
    rw[e,XH] at hs;cases hs
   ·grind
  have m1:=qcR hr ha hb;have m2:=zZ hr h2 m1;have m3:=zZ hr (show 0<=M-sG f b by grind) ha;have m4:=zZ hr (show 0<=M-sG f a by grind) hb;have m5:=zZ hr (show 0<=b-a by grind) m2;have m6:=QB hr (QB hr m3 m4) m5;have hc:(0:Rat)<=(b-a)⁻¹:=by
   have:=Rat.inv_pos.2 hab
   grind
  have m7:=zZ hr hc m6;have hf:=Hz t;have hi:(b-a)⁻¹*(b-a)=1:=Rat.inv_mul_cancel _ dY;unfold sG uz at*;have e1:(b-a)⁻¹*((M-(f.c0+b*(f.c1+b*f.c2)))*(t.p-a)+(M-(f.c0+a*(f.c1+a*f.c2)))*(b-t.p)+(b-a)*(f.c2*((t.p-a)*(b-t.p)+jI t* -jI t*t.r)))=M-(f.c0+t.p*(f.c1+t.p*f.c2)+f.c2*t.r):=by
   grind
  have e2:(b-a)⁻¹*((M-(f.c0+b*(f.c1+b*f.c2)))*jI t+(M-(f.c0+a*(f.c1+a*f.c2)))* -jI t+(b-a)*(f.c2*((t.p-a)* -jI t+(b-t.p)*jI t)))= -(jI t*(f.c1+(f.c2+f.c2)*t.p)):=by
   grind
  rw[e1,e2] at m7;exact m7
end Go.Via
namespace Go.Via
open Go
structure qpS(S:Rl->Prop):Prop where
 swap:∀{x y},S x->S y->aV x y= -aV y x
 trans:∀{x y z},S x->S y->S z->aV x y<0->aV y z<0->aV x z<0
 eq0:∀{x y},S x->S y->aV x y=0->x=y
def IR(E:List Rl)(x:Rl):Int:=((E.filter fun e=>decide (aV e x<0)).length:Nat)
def Dx{α:Type}{p q:α->Bool}:∀{l:List α},(∀x∈l,p x=true->q x=true)->(l.filter p).length<=(l.filter q).length
 |[],_=>Nat.le_refl _
 |x::l,h=>by
  have ih:=Dx (p:=p) (q:=q) (l:=l) fun y hy=>h y (List.mem_cons_of_mem _ hy)
  have hx:=h x (List.mem_cons_self ..);cases hp:p x
  ·rw[List.filter_cons_of_neg qhE];cases hq:q x
   ·rw[List.filter_cons_of_neg (by rw[hq];decide)];exact ih
   ·rw[List.filter_cons_of_pos hq,List.length_cons];omega
  ·rw[List.filter_cons_of_pos hp,List.filter_cons_of_pos (hx hp),List.length_cons,List.length_cons];omega
def Dy{α:Type}{p q:α->Bool}:∀{l:List α} {z:α},(∀x∈l,p x=true->q x=true)->z∈l->p z=false->q z=true->(l.filter p).length<(l.filter q).length
 |[],z,_,hz,_,_=>absurd hz bz
 |x::l,z,h,hz,h1,h2=>by
  have hx:=h x (List.mem_cons_self ..);have hl:∀y∈l,p y=true->q y=true:=fun y hy=>h y (List.mem_cons_of_mem _ hy)
  rcases List.mem_cons.1 hz with e|e
  ·subst e;rw[List.filter_cons_of_neg (by rw[h1];decide),List.filter_cons_of_pos h2,List.length_cons];have:=Dx hl;omega
  ·have ih:=Dy hl e h1 h2;cases hp:p x
   ·rw[List.filter_cons_of_neg qhE];cases hq:q x
    ·rw[List.filter_cons_of_neg (by rw[hq];decide)];exact ih
    ·rw[List.filter_cons_of_pos hq,List.length_cons];omega
   ·rw[List.filter_cons_of_pos hp,List.filter_cons_of_pos (hx hp),List.length_cons,List.length_cons];omega
def qju{S:Rl->Prop}(O:qpS S){E:List Rl}(hE:∀x∈E,S x):dZ (fun x=>x∈E) (IR E):=by
 have mono:∀{x y},x∈E->y∈E->aV x y<0->IR E x<IR E y:=fun {x y} hx hy h=>by
  unfold IR;have:=Dy (p:=fun e=>decide (aV e x<0)) (q:=fun e=>decide (aV e y<0)) (l:=E) (z:=x) (fun e he h1=>by
 rw[decide_eq_true_eq] at h1 ⊢;exact O.trans (hE e he) (hE x hx) (hE y hy) h1 h) hx (by rw[Cm];rfl) (decide_eq_true h)
  omega
 have tri:∀{x y},x∈E->y∈E->aV x y<0∧IR E x<IR E y∨0<aV x y∧IR E y<IR E x∨aV x y=0∧x=y:=fun {x y} hx hy=>by
  have hs:=O.swap (hE x hx) (hE y hy);rcases qV x y with h|h|h
  ·exact .inl ⟨ae,mono hx hy ae⟩
  ·exact .inr (.inr ⟨h,O.eq0 (hE x hx) (hE y hy) h⟩)
  ·exact .inr (.inl ⟨ae,mono hy hx ae⟩)
 constructor
 ·intro x y hx hy;rcases tri hx hy with h|h|h
  ·omega
  ·omega
  ·obtain⟨h,e⟩:=h;subst e;omega
 ·intro x y hx hy;rcases tri hx hy with h|h|h
  ·omega
  ·omega
  ·obtain⟨h,e⟩:=h;subst e;omega
 ·intro x y hx hy e;rcases tri hx hy with h|h|h
  ·omega
  ·omega
  ·exact h.2
def ZZ{m:Rl}(h:m.ok)(h0:m.r≠0)(q:Rat):aV (rl q) m≠0:=fun e=>by
 have hr:=h.r0;have a1:=(JU hr (q:=q)).1 ae;have a2:=(XI hr (q:=q)).1 (by have:=nM q m;omega);have hf:=Hz m;have e:m.r=(m.p-q)*(m.p-q):=by
  unfold nn at a1 a2;have g1:jI m*jI m*m.r=m.r:=by rw[hf];grind
  have g2: -jI m* -jI m*m.r=m.r:=dY;rw[g1] at a1;rw[g2] at a2;rcases dV (m.p-q) with⟨g,_⟩|⟨g,_⟩|⟨g,_⟩<;>rcases a1 with a1|a1<;>rcases a2 with a2|a2<;>grind
 have hs:qE m.r=false:=Vf
 rw[e,XH] at hs;cases hs
def Em{m:Rl}(h:m.ok){p q:Rat}(hpq:q<=p)(hp:aV (rl p) m<0):aV (rl q) m<0:=by
 by_cases h0:m.r=0
 ·rw[h.rat h0,pO] at hp ⊢;rcases kK p m.p with⟨c,e⟩|⟨c,e⟩|⟨c,e⟩<;>rw[e] at hp
  ·rcases kK q m.p with⟨c',e'⟩|⟨c',e'⟩|⟨c',e'⟩<;>rw[e']
   ·decide
   ·grind
   ·grind
  ·omega
  ·omega
 ·have hr:=h.r0;have h1:=(JU hr (q:=p)).1 ae;have h2:=QB hr h1 (qcS (show 0<=p-q by grind));have e1:m.p-p+(p-q)=m.p-q:=dY
  have e2:jI m+0=jI m:=dY;rw[e1,e2] at h2;have h3:=(JU hr (q:=q)).2 h2;have:=ZZ h h0 q;omega
def qlc{m:Rl}(h:m.ok):qpS (fun x=>(∃q,x=rl q)∨x=m):=by
 have eqz:∀{q:Rat},aV (rl q) m=0->rl q=m:=fun {q} e=>by
  by_cases h0:m.r=0
  ·rw[h.rat h0,pO] at e;rw[h.rat h0];rcases kK q m.p with⟨c,e'⟩|⟨c,e'⟩|⟨c,e'⟩<;>rw[e'] at e
   ·omega
   ·omega
   ·rw[c]
  ·exact absurd e (ZZ h h0 q)
 constructor
 ·rintro x y (⟨p,rfl⟩|rfl) (⟨q,rfl⟩|rfl)
  ·rw[pO,pO];rcases kK p q with⟨c,e⟩|⟨c,e⟩|⟨c,e⟩<;>rcases kK q p with⟨c',e'⟩|⟨c',e'⟩|⟨c',e'⟩<;>rw[e,e']<;>first|rfl|grind
  ·exact nM _ _
  ·rw[nM];omega
  ·rw[Cm];rfl
 ·have rr:∀{a b:Rat},aV (rl a) (rl b)<0↔a<b:=fun {a b}=>by
   rw[pO];rcases kK a b with⟨c,e⟩|⟨c,e⟩|⟨c,e⟩<;>rw[e]
   ·exact⟨fun _=>c,fun _=>ax⟩
   ·exact⟨fun h=>absurd h ax,fun h=>dY⟩
   ·exact⟨fun h=>absurd h ax,fun h=>dY⟩
  rintro x y z (⟨p,rfl⟩|rfl) (⟨q,rfl⟩|rfl) (⟨r,rfl⟩|rfl) h1 h2
  ·rw[rr] at*;grind
  ·rw[rr] at h1;exact Em h dY h2
  ·rw[rr];refine Rat.not_le.1 fun hl=>?_
   have:=Em h hl h1;rw[nM] at this;omega
  ·rw[Cm] at h2;omega
  ·rw[rr] at h2
   by_cases hc:aV x (rl r)<0
   ·exact hc
   ·exfalso
    have h3:aV (rl q) x<0:=by
     by_cases hz:aV (rl r) x=0
     ·have:=eqz hz;rw[<-this,rr];exact h2
     ·exact Em h (show q<=r by grind) (by have:=nM r x;omega)
    rw[nM] at h3;omega
  ·rw[nM] at h2;omega
  ·rw[Cm] at h1;omega
  ·exact h1
 ·rintro x y (⟨p,rfl⟩|rfl) (⟨q,rfl⟩|rfl) e
  ·rw[pO] at e;rcases kK p q with⟨c,e'⟩|⟨c,e'⟩|⟨c,e'⟩<;>rw[e'] at e
   ·omega
   ·omega
   ·rw[c]
  ·exact eqz e
  ·exact(eqz (by rw[nM];omega)).symm
  ·rfl
end Go.Via
namespace Go.Via
open Go
structure Ln where
 x0:Rat
 x1:Rat
 y0:Rat
 y1:Rat
deriving DecidableEq
structure PU where
 i:Iv
 f:Ln
deriving DecidableEq
def eF(i:Iv):Bool:=decide (i.f=i.t)
def qx(f:Ln):Qd:=⟨f.x0,f.x1,0⟩
def qy(f:Ln):Qd:=⟨f.y0,f.y1,0⟩
def jJ(f:Ln)(t:Rl):Ln:=if t.r=0 then⟨sG (qx f) t.p,0,sG (qy f) t.p,0⟩ else f
def En(f g:Ln):Ln:=⟨f.x0-g.x0,f.x1-g.x1,f.y0-g.y0,f.y1-g.y1⟩
def pV(f g:Ln)(t:Rl):Bool:=decide (jJ (En f g) t=⟨0,0,0,0⟩)
def iQ(u:PU):List PU:=
 (if u.i.fo=true then[] else[⟨⟨u.i.f,u.i.f,false,false⟩,u.f⟩])++
 (if eF u.i=true then[] else⟨⟨u.i.f,u.i.t,true,true⟩,u.f⟩::(if u.i.tp=true then[] else[⟨⟨u.i.t,u.i.t,false,false⟩,u.f⟩]))
def aF(l:List PU):List PU:=l.flatMap iQ
def sH(out:List PU)(t:Rl):Bool:=match out.getLast? with|some u=>decide (u.i.t=t)&& !u.i.tp|none=>false
def uq(out:List PU)(t:Rl):Option PU:=match out.getLast? with|some u=>if u.i.t=t∧eF u.i=false then some u else none|none=>none
def jb(out:List PU)(u:PU):List PU:=out.dropLast++[u]
def kC(out:List PU)(prev:Option PU)(x:PU)(next:Option PU):List PU:=
 match eF x.i,uq out x.i.f with
 |false,some b=>if b.i.tp=false∧b.f=x.f then jb out ⟨⟨b.i.f,x.i.t,b.i.fo,true⟩,b.f⟩ else
  out++[⟨⟨x.i.f,x.i.t,(match prev with|some p=>if eF p.i=true∧p.i.f=x.i.f∧sH out x.i.f=false then false else x.i.fo|none=>x.i.fo),x.i.tp⟩,x.f⟩]
 |false,none=>out++[⟨⟨x.i.f,x.i.t,(match prev with|some p=>if eF p.i=true∧p.i.f=x.i.f∧sH out x.i.f=false then false else x.i.fo|none=>x.i.fo),x.i.tp⟩,x.f⟩]
 |true,some b=>if pV b.f x.f x.i.f=true then jb out ⟨⟨b.i.f,b.i.t,b.i.fo,false⟩,b.f⟩ else
  (match next with|some n=>if n.i.f=x.i.f∧pV n.f x.f x.i.f=true then out else out++[⟨x.i,jJ x.f x.i.f⟩]|none=>out++[⟨x.i,jJ x.f x.i.f⟩])
 |true,none=>(match next with|some n=>if n.i.f=x.i.f∧pV n.f x.f x.i.f=true then out else out++[⟨x.i,jJ x.f x.i.f⟩]|none=>out++[⟨x.i,jJ x.f x.i.f⟩])
def uS:Option PU->List PU->List PU->List PU
 |_,out,[]=>out
 |prev,out,x::xs=>uS (some x) (kC out prev x xs.head?) xs
def qJ(l:List PU):List PU:=uS none [] (aF l)
def ou(ρ:Rl->Int)(l:List PU):Prop:=l.Pairwise (fun x y=>aK ρ x.i.e<=aK ρ y.i.b)∧∀x∈l,aK ρ x.i.b<aK ρ x.i.e
def Ends(S:Rl->Prop)(l:List PU):Prop:=∀x∈l,S x.i.f∧S x.i.t
def nZ(ρ:Rl->Int)(b:pU):2*ρ b.1<=aK ρ b∧aK ρ b<=2*ρ b.1+1:=by unfold aK;split<;>omega
def Bf{ρ:Rl->Int}{l:List PU}{u:PU}(h:ou ρ l)(hu:aK ρ u.i.b<aK ρ u.i.e)(hl:∀x∈l,aK ρ x.i.e<=aK ρ u.i.b):ou ρ (l++[u]):=
 ⟨List.pairwise_append.2 ⟨h.1,List.pairwise_singleton ..,fun x hx y hy=>by rw[List.mem_singleton] at hy;rw[hy];exact hl x hx⟩,fun x hx=>by
 rcases List.mem_append.1 hx with e|e
 ·exact h.2 x e
 ·rw[List.mem_singleton] at e;rw[e];exact hu⟩
def yA{S:Rl->Prop}{l:List PU}{u:PU}(h:Ends S l)(hu:S u.i.f∧S u.i.t):Ends S (l++[u]):=fun x hx=>by
 rcases List.mem_append.1 hx with e|e
 ·exact h x e
 ·rw[List.mem_singleton] at e;rw[e];exact hu
theorem pW{l:List PU}{b:PU}(h:l.getLast? =some b):l=l.dropLast++[b]:=by
 have hne:l≠[]:=fun e=>by rw[e] at h;cases h
 have:=List.dropLast_concat_getLast hne;rw[List.getLast?_eq_some_getLast hne] at h
 injection h with h
 rw[h] at this;exact this.symm
def Vm{ρ:Rl->Int}{l:List PU}{b:PU}(h:ou ρ (l++[b])):ou ρ l∧(∀x∈l,aK ρ x.i.e<=aK ρ b.i.b)∧aK ρ b.i.b<aK ρ b.i.e:=by
 obtain⟨h1,h2⟩:=h;obtain⟨a1,_,a3⟩:=List.pairwise_append.1 h1;exact⟨⟨a1,fun x hx=>h2 x (List.mem_append_left _ hx)⟩,fun x hx=>a3 x hx b bz,h2 b bz⟩
def yB{out:List PU}{t:Rl}{b:PU}(h:uq out t=some b):out.getLast? =some b∧b.i.t=t∧eF b.i=false:=by
 unfold uq at h;cases hl:out.getLast? with
 |none=>rw[hl] at h;cases h
 |some u=>
  rw[hl] at h;dsimp only at h
  split at h
  ·injection h with h;subst h;rename_i hc;exact⟨rfl,hc⟩
  ·cases h
def qcb{S:Rl->Prop}{ρ:Rl->Int}(T:dZ S ρ){out:List PU}{prev next:Option PU}{x:PU}{lo:Int}(hs:ou ρ out)(he:Ends S out)(hx:S x.i.f∧S x.i.t)(ho:aK ρ x.i.b<aK ρ x.i.e)
 (hlo:∀u∈out,aK ρ u.i.e<=lo)(hxl:lo<=aK ρ x.i.b)(hform:(x.i.f=x.i.t∧x.i.fo=false∧x.i.tp=false)∨(ρ x.i.f<ρ x.i.t∧x.i.fo=true∧x.i.tp=true)):
 ou ρ (kC out prev x next)∧Ends S (kC out prev x next)∧∀u∈kC out prev x next,aK ρ u.i.e<=aK ρ x.i.e:=by
 have keepE:∀u∈out,aK ρ u.i.e<=aK ρ x.i.e:=fun u hu=>by have:=hlo u hu;omega
 have snocE:∀v:PU,aK ρ v.i.e=aK ρ x.i.e->∀u∈out++[v],aK ρ u.i.e<=aK ρ x.i.e:=fun v hv u hu=>by
  rcases List.mem_append.1 hu with e|e
  ·exact keepE u e
  ·rw[List.mem_singleton] at e;rw[e];omega
 have red:ou ρ (out++[⟨x.i,jJ x.f x.i.f⟩])∧Ends S (out++[⟨x.i,jJ x.f x.i.f⟩])∧∀u∈out++[⟨x.i,jJ x.f x.i.f⟩],aK ρ u.i.e<=aK ρ x.i.e:=
  ⟨Bf hs ho fun u hu=>by have:=hlo u hu;show _<=aK ρ x.i.b;omega,yA he hx,snocE _ rfl⟩
 have app:ou ρ (out++[⟨⟨x.i.f,x.i.t,(match prev with|some p=>if eF p.i=true∧p.i.f=x.i.f∧sH out x.i.f=false then false else x.i.fo|none=>x.i.fo),x.i.tp⟩,x.f⟩])∧Ends S (out++[⟨⟨x.i.f,x.i.t,(match prev with|some p=>if eF p.i=true∧p.i.f=x.i.f∧sH out x.i.f=false then false else x.i.fo|none=>x.i.fo),x.i.tp⟩,x.f⟩])∧
  ∀u∈out++[⟨⟨x.i.f,x.i.t,(match prev with|some p=>if eF p.i=true∧p.i.f=x.i.f∧sH out x.i.f=false then false else x.i.fo|none=>x.i.fo),x.i.tp⟩,x.f⟩],aK ρ u.i.e<=aK ρ x.i.e:=by
  generalize hb:(match prev with|some p=>if eF p.i=true∧p.i.f=x.i.f∧sH out x.i.f=false then false else x.i.fo|none=>x.i.fo)=c
  have hc:c=x.i.fo∨(c=false∧sH out x.i.f=false):=by
   rw[<-hb];cases prev with
   |none=>exact .inl rfl
   |some p=>dsimp only;split;rename_i h;exact .inr ⟨rfl,h.2.2⟩;exact .inl rfl
  have hb0:aK ρ (x.i.f,c)<=aK ρ x.i.b:=by
   rcases hc with e|e
   ·rw[e];exact Int.le_refl _
   ·rw[e.1];unfold aK Iv.b;simp;split<;>omega
  refine⟨Bf hs ?_ fun u hu=>?_,yA he hx,snocE _ rfl⟩
  ·show aK ρ (x.i.f,c)<aK ρ x.i.e;omega
  ·show aK ρ u.i.e<=aK ρ (x.i.f,c);rcases hc with e|⟨e,hh⟩
   ·rw[e];have:=hlo u hu;have:aK ρ (x.i.f,x.i.fo)=aK ρ x.i.b:=rfl;omega
   ·rw[e]
    have hle:aK ρ u.i.e<=aK ρ x.i.b:=(by have:=hlo u hu;omega);have hne:out≠[]:=fun e=>by rw[e] at hu;simp at hu
    obtain⟨b,hbl⟩:∃b,out.getLast? =some b:=⟨_,List.getLast?_eq_some_getLast hne⟩;have hsn:=pW hbl;rw[hsn] at hs hu he hlo;obtain⟨i1,i2,i3⟩:=Vm hs;have hbe:aK ρ b.i.e<=aK ρ (x.i.f,false):=by
     have h1:aK ρ b.i.e<=aK ρ x.i.b:=(by have:=hlo b bz;omega);unfold sH at hh;rw[hbl] at hh;dsimp only at hh;have hbS:=(he b bz).2
     by_cases ht:b.i.t=x.i.f
     ·rw[decide_eq_true ht,Bool.true_and] at hh;have:b.i.tp=true:=by simpa using hh
      unfold aK Iv.e Iv.b at*;rw[this,ht];simp
     ·have hne:ρ b.i.t≠ρ x.i.f:=fun e=>ht (T.inj hbS hx.1 e)
      have k1:=nZ ρ b.i.e;have k2:=nZ ρ x.i.b;have k3:=nZ ρ (x.i.f,false);have k4:b.i.e.1=b.i.t:=rfl;have k5:x.i.b.1=x.i.f:=rfl;rw[k4] at k1;rw[k5] at k2;dsimp only at k3;omega
    rcases List.mem_append.1 hu with e'|e'
    ·have:=i2 u e';omega
    ·rw[List.mem_singleton] at e';rw[e'];exact hbe
 have nx:ou ρ (match next with|some n=>if n.i.f=x.i.f∧pV n.f x.f x.i.f=true then out else out++[⟨x.i,jJ x.f x.i.f⟩]|none=>out++[⟨x.i,jJ x.f x.i.f⟩])∧Ends S (match next with|some n=>if n.i.f=x.i.f∧pV n.f x.f x.i.f=true then out else out++[⟨x.i,jJ x.f x.i.f⟩]|none=>out++[⟨x.i,jJ x.f x.i.f⟩])∧
  ∀u:PU,u∈(match next with|some n=>if n.i.f=x.i.f∧pV n.f x.f x.i.f=true then out else out++[(⟨x.i,jJ x.f x.i.f⟩:PU)]|none=>out++[(⟨x.i,jJ x.f x.i.f⟩:PU)])->aK ρ u.i.e<=aK ρ x.i.e:=by
  cases next with
  |none=>exact red
  |some n=>
   dsimp only
   split
   ·exact⟨hs,he,keepE⟩
   ·exact red
 have setE:∀{b v:PU},uq out x.i.f=some b->v.i.b=b.i.b->v.i.f=b.i.f->S v.i.t->aK ρ v.i.b<aK ρ v.i.e->aK ρ v.i.e<=aK ρ x.i.e->ou ρ (jb out v)∧Ends S (jb out v)∧∀u∈jb out v,aK ρ u.i.e<=aK ρ x.i.e:=fun {b v} hb h1 h2 h3 h4 h5=>by
  obtain⟨hl,_,_⟩:=yB hb;have hsn:=pW hl;have hs':=hs;have he':=he;rw[hsn] at hs' he';obtain⟨i1,i2,i3⟩:=Vm hs';unfold jb;refine⟨Bf i1 h4 fun u hu=>by rw[h1];exact i2 u hu,yA (fun u hu=>he' u (List.mem_append_left _ hu)) ⟨by rw[h2];exact(he' b bz).1,h3⟩,fun u hu=>?_⟩
  rcases List.mem_append.1 hu with e|e
  ·exact keepE u (by rw[hsn];exact List.mem_append_left _ e)
  ·rw[List.mem_singleton] at e;rw[e];exact h5
 unfold kC;have fin:∀b,uq out x.i.f=some b->(eF x.i=false->b.i.tp=false∧b.f=x.f->ou ρ (jb out ⟨⟨b.i.f,x.i.t,b.i.fo,true⟩,b.f⟩)∧Ends S (jb out ⟨⟨b.i.f,x.i.t,b.i.fo,true⟩,b.f⟩)∧∀u∈jb out ⟨⟨b.i.f,x.i.t,b.i.fo,true⟩,b.f⟩,aK ρ u.i.e<=aK ρ x.i.e)∧
  (eF x.i=true->ou ρ (jb out ⟨⟨b.i.f,b.i.t,b.i.fo,false⟩,b.f⟩)∧Ends S (jb out ⟨⟨b.i.f,b.i.t,b.i.fo,false⟩,b.f⟩)∧∀u∈jb out ⟨⟨b.i.f,b.i.t,b.i.fo,false⟩,b.f⟩,aK ρ u.i.e<=aK ρ x.i.e):=fun b hb=>by
  obtain⟨hl,ht,hn⟩:=yB hb;have hbm:b∈out:=by rw[pW hl];simp
  have hbo:=hs.2 b hbm;have hble:=hlo b hbm
  constructor
  ·intro hi _;refine setE hb rfl rfl hx.2 ?_ ?_
   ·have e1:aK ρ (Iv.e ⟨b.i.f,x.i.t,b.i.fo,true⟩)=2*ρ x.i.t:=by unfold aK Iv.e;simp
    have e2:aK ρ (Iv.b ⟨b.i.f,x.i.t,b.i.fo,true⟩)=aK ρ b.i.b:=rfl;rcases hform with hf|hf
    ·exfalso;unfold eF at hi;rw[decide_eq_true hf.1] at hi;cases hi
    ·have e3:aK ρ x.i.b=2*ρ x.i.f+1:=by unfold aK Iv.b;rw[hf.2.1];simp
     show aK ρ (Iv.b ⟨b.i.f,x.i.t,b.i.fo,true⟩)<aK ρ (Iv.e ⟨b.i.f,x.i.t,b.i.fo,true⟩);omega
   ·rcases hform with hf|hf
    ·exfalso;unfold eF at hi;rw[decide_eq_true hf.1] at hi;cases hi
    ·show aK ρ (Iv.e ⟨b.i.f,x.i.t,b.i.fo,true⟩)<=_;unfold aK Iv.e;rw[hf.2.2];exact Int.le_refl _
  ·intro hi;refine setE hb rfl rfl (by show S b.i.t;rw[ht];exact hx.1) ?_ ?_
   ·have e1:aK ρ b.i.e<=aK ρ (Iv.e ⟨b.i.f,b.i.t,b.i.fo,false⟩):=by
     have:=nZ ρ b.i.e;have e:b.i.e.1=b.i.t:=rfl;rw[e] at this;unfold aK Iv.e at*;simp at*;omega
    show aK ρ b.i.b<aK ρ (Iv.e ⟨b.i.f,b.i.t,b.i.fo,false⟩);omega
   ·rcases hform with hf|hf
    ·show aK ρ (Iv.e ⟨b.i.f,b.i.t,b.i.fo,false⟩)<=_;unfold aK Iv.e;rw[hf.2.2,ht,hf.1];exact Int.le_refl _
    ·exfalso;unfold eF at hi;have:=of_decide_eq_true hi;rw[this] at hf;omega
 cases hi:eF x.i
 ·cases hb:uq out x.i.f with
  |none=>exact app
  |some b=>
   dsimp only
   split
   ·rename_i hc;exact(fin b hb).1 hi hc
   ·exact app
 ·cases hb:uq out x.i.f with
  |none=>exact nx
  |some b=>
   dsimp only
   split
   ·exact(fin b hb).2 hi
   ·exact nx
end Go.Via
namespace Go.Via
open Go
def Vo(k:Nat):List UInt8:=UInt8.ofNat (2^(k%8))::List.replicate (k/8) 0
theorem qcc(k:Nat):mD (Vo k)=2^k:=by
 unfold Vo mD;have h8:2^(k%8)<256:=by
  have:2^(k%8)<=2^7:=Nat.pow_le_pow_right ae ae;omega
 rw[List.reverse_cons,List.reverse_replicate,List.map_append,List.map_replicate,qP];have e0:val 256 (List.replicate (k/8) (UInt8.toNat 0))=0:=DW 256 (k/8);rw[e0,List.length_replicate];simp only[List.map_cons,List.map_nil,rV];have e1:(UInt8.ofNat (2^(k%8))).toNat=2^(k%8):=Iy
 rw[e1];have e2:val 256 []=0:=rfl;rw[e2,Nat.mul_zero,Nat.add_zero,Nat.zero_add];have e3:(256:Nat)=2^8:=rfl;rw[e3,<-Nat.pow_mul,<-Nat.pow_add]
 congr 1
 omega
def Z4(k:Nat):lL (Vo k)=bQ (2^k):=by
 rw[<-qcc k];show lL (Vo k)=lL (zO (mD (Vo k)));rw[G6];unfold Vo;rw[List.head?_cons];intro h
 injection h with h
 have h8:2^(k%8)<256:=by
  have:2^(k%8)<=2^7:=Nat.pow_le_pow_right ae ae;omega
 have:=congrArg UInt8.toNat h;simp at this;have hp:0<2^(k%8):=Nat.pow_pos ae;omega
def zU(n:Nat):Nat:=n/256^(nb n-1)%256
def kR(n:Nat):Nat:=(8*(nb n-1)+Lib.bitLen (zU n)+1)/2
def RG(n:Nat):zU n<256:=Nat.mod_lt _ ae
def Vp(n:Nat):Lib.bitLen (zU n)<=8:=Lib.bitLen_le _ 8 ae (RG n)
def XJ{n:Nat}(h0:n≠0):n<2^kR n*2^kR n:=by
 have hp:=Ea h0;have hn:n<256^nb n:=kH n;have e1:n/256^(nb n-1)<256:=by
  rw[Nat.div_lt_iff_lt_mul (Nat.pow_pos ae),<-Nat.pow_succ'];have:nb n-1+1=nb n:=ae
  rw[Nat.succ_eq_add_one,this];exact hn
 have e2:zU n=n/256^(nb n-1):=Nat.mod_eq_of_lt e1;have e3:zU n<2^Lib.bitLen (zU n):=by
  by_cases h:zU n=0
  ·rw[h];exact Nat.pow_pos ae
  ·exact(xx (Nat.lt_trans (RG n) ae) h).2.2
 have e4:n<(zU n+1)*256^(nb n-1):=by
  rw[e2];rw[Nat.mul_comm];exact Nat.lt_mul_div_succ n (Nat.pow_pos ae)
 have e5:(zU n+1)*256^(nb n-1)<=2^Lib.bitLen (zU n)*256^(nb n-1):=Nat.mul_le_mul_right _ e3;have e6:(256:Nat)=2^8:=rfl;have e7:2^Lib.bitLen (zU n)*256^(nb n-1)=2^(Lib.bitLen (zU n)+8*(nb n-1)):=by
  rw[e6,<-Nat.pow_mul,<-Nat.pow_add]
 have e8:2^(Lib.bitLen (zU n)+8*(nb n-1))<=2^(kR n+kR n):=Nat.pow_le_pow_right ae (by unfold kR;omega);rw[<-Nat.pow_add];omega
def qjv(k:Nat):nb (2^k)<=k/8+1:=by
 refine nP ?_;have e6:(256:Nat)=2^8:=rfl;rw[e6,<-Nat.pow_mul];exact Nat.pow_lt_pow_right ae ae
def Vq(n:Nat):kR n/8<=nb n:=by
 have:=Vp n;unfold kR;omega
def Vr(n x:Nat):Prop:=0<x∧n<(x+1)*(x+1)∧nb x<=nb n+1
def Vs{n:Nat}(h0:n≠0):Vr n (2^kR n):=by
 refine⟨Nat.pow_pos ae,?_,Nat.le_trans (qjv _) (by have:=Vq n;omega)⟩;have:=XJ h0;have h:2^kR n*2^kR n<=(2^kR n+1)*(2^kR n+1):=Nat.mul_le_mul ae ae;omega
def XK{n x:Nat}(h0:n≠0)(h:Vr n x)(hlt:(x+n/x)/2<x):Vr n ((x+n/x)/2):=
 ⟨XG ae h.1,qca h.1,Nat.le_trans (gG ae) h.2.2⟩
theorem qcd{n x:Nat}(h:Vr n x)(hge:¬(x+n/x)/2<x):bV n=x:=XF h.1 h.2.1 ae
theorem qjw:bQ 2=⟨#[2]⟩:=by
 have:=Z4 1;rw[show(2:Nat)^1=2 from rfl] at this;rw[<-this];rfl
theorem Vt(c:Nat):(⟨(Lib.repeatL (⟨#[0]⟩:ByteArray).data.toList c).toArray⟩:ByteArray)=lL (List.replicate c 0):=by
 have:=Lib.repeatL_replicate 0 1 c;rw[Nat.mul_one] at this;show lL (Lib.repeatL [0] c)=_;rw[show([0]:List UInt8)=List.replicate 1 0 from rfl,this]
def qjx{s:Int}(k:Nat)(hs:s=(k:Int))(hk:k<8):IntKind.u8.wrap (1*2^(min s.toNat IntKind.u8.bits))=((2^k:Nat):Int):=by
 subst hs;have:k=0∨k=1∨k=2∨k=3∨k=4∨k=5∨k=6∨k=7:=ae
 rcases this with rfl|rfl|rfl|rfl|rfl|rfl|rfl|rfl<;>rfl
def qce{n:Nat}(h:(bQ n==⟨#[]⟩)=true):n=0:=by rw[nK] at h;simpa using h
def XL{n:Nat}(h:(bQ n==⟨#[]⟩)=false):n≠0:=by rw[nK] at h;simpa using h
end Go.Via
namespace Go.Proofs.YtaffcpfhedadhaaGreatDoor
open Go Go.Via
def Vu(x:Nat)(h:x<256:=by omega):aJ Tryz.prog 230 #[.int .u8 x] (.int .i64 (Lib.bitLen x:Nat)):=
 AO ak fun w=>Tryz.bits_Len8 (x:Int) w ae ae
def H5(c:Nat)(h:c<=100000000:=by omega):aJ Tryz.prog 231 #[.string ⟨#[0]⟩,.int .i64 c] (.string (lL (List.replicate c 0))):=by
 refine⟨ak,fun w=>?_⟩
 have:=Tryz.strings_Repeat ⟨#[0]⟩ c w ae (by show 1*c<=_;omega);rw[Vt] at this;exact this.mono fun e w' ⟨h1,h2⟩=>⟨h1,h2.os,h2.tape,h2.output,h2.size,h2.block,fun m=>(show False from m).elim⟩
end Go.Proofs.YtaffcpfhedadhaaGreatDoor
namespace Go.Via
open Go Go.RowKit
def qe6{q:Rat}:∀(z:SR (nb q.num.natAbs)×SR (nb q.den)),∀c∈([⟨z.1.b,3,NV .i64 (D8 q.num.natAbs),z.1.n,true⟩,⟨z.2.b,3,NV .i64 (D8 q.den),z.2.n,true⟩]:List aH),c.own=true:=by
 intro z c hc;simp only[List.mem_cons,List.mem_nil_iff,or_false] at hc;rcases hc with rfl|rfl<;>rfl
def im(z:Int)(i:Nat):Int:=if z<0 then-((z.natAbs/256^i:Nat):Int) else((z.natAbs/256^i:Nat):Int)
def imR(z:Int)(i:Nat):Int:=if z<0 then-((Ef z.natAbs i:Nat):Int) else((Ef z.natAbs i:Nat):Int)
def qjz(z:Int):im z 0=z:=by unfold im;rw[Nat.pow_zero,Nat.div_one];split<;>omega
def qjA(z:Int)(i:Nat):(im z i).tmod 256=imR z i:=by
 unfold im imR Ef
 split
 ·rw[Int.neg_tmod,show(256:Int)=((256:Nat):Int) from rfl,<-Int.ofNat_tmod]
 ·rw[show(256:Int)=((256:Nat):Int) from rfl,<-Int.ofNat_tmod]
def qjB{z:Int}{i:Nat}(h:imR z i<0):IntKind.i64.wrap (0-imR z i)=((Ef z.natAbs i:Nat):Int):=by
 have hd:=AY z.natAbs i;unfold imR at*
 by_cases hz:z<0
 ·rw[if_pos hz] at*;exact wi ae ae ae
 ·rw[if_neg hz] at*;omega
def qjC{z:Int}{i:Nat}(h:¬imR z i<0):imR z i=((Ef z.natAbs i:Nat):Int):=by
 unfold imR at*
 by_cases hz:z<0
 ·rw[if_pos hz] at*;omega
 ·rw[if_neg hz] at*
def qe7{z:Int}{i:Nat}(h1: -9223372036854775808<=z)(h2:z<=9223372036854775807): -9223372036854775808<=im z i∧im z i<=9223372036854775807:=by
 have h3:z.natAbs/256^i<=z.natAbs:=Nat.div_le_self _ _;unfold im
 generalize z.natAbs/256^i=k at*
 split<;>omega
def qjD(z:Int)(i:Nat)(h1: -9223372036854775808<=z)(h2:z<=9223372036854775807):IntKind.i64.wrap ((im z i).tdiv 256)=im z (i+1):=by
 have e:(im z i).tdiv 256=im z (i+1):=by
  unfold im
  split
  ·rw[Int.neg_tdiv,show(256:Int)=((256:Nat):Int) from rfl,<-Int.ofNat_tdiv,Xv]
  ·rw[show(256:Int)=((256:Nat):Int) from rfl,<-Int.ofNat_tdiv,Xv]
 have:=qe7 (i:=i+1) h1 h2;exact wi (by rw[e];omega) (by rw[e];omega) e
def qpT{z:Int}{i:Nat}(h:(im z i !=0)=true):i<nb z.natAbs:=by
 have h1:im z i≠0:=pI;refine PI (Nat.pos_of_ne_zero fun e=>h1 ?_);unfold im;rw[e];split<;>rfl
def qny{z:Int}{i:Nat}(h:(im z i !=0)=false)(hi:i<=nb z.natAbs):i=nb z.natAbs:=by
 have h1:im z i=0:=pI;refine PK (n:=z.natAbs) ?_ hi;unfold im at h1
 split at h1<;>omega
def qld{a:Int}(h1: -9223372036854775808<=a)(h2:a<=9223372036854775807):jv a<=8388608:=by
 have:jv a<=8:=nP ae;omega
def qe8(z:Int):bY (z:Rat)<=nb z.natAbs+1:=by
 show max (nb z.natAbs) (nb 1)<=_;rw[uO];omega
theorem qnz(q:Rat):dm (-q)=dm q:=by unfold dm;rw[Rat.neg_den]
theorem qle(q:Rat):Q (-q)= .agg #[.bool (decide (-q.num<0)),.string (bQ q.num.natAbs),.bool false,.string (dm q)]:=by
 unfold Q;rw[qnz,Rat.neg_num,Int.natAbs_neg]
theorem qnA(n:Nat):(bQ n !=⟨#[]⟩)=decide (n≠0):=by
 rw[BZ]
def qnB{q:Rat}(h:(!decide (q.num<0))=true):Value.agg #[.bool (bQ q.num.natAbs !=⟨#[]⟩),.string (bQ q.num.natAbs),.bool false,.string (dm q)]=Q (-q):=by
 rw[qle,qnA];have h1:¬q.num<0:=pI
 rw[show decide (q.num.natAbs≠0)=decide (-q.num<0) from decide_eq_decide.2 ⟨fun _=>ae,fun _=>ae⟩]
def qnC{q:Rat}(h:(!decide (q.num<0))=false):Value.agg #[.bool false,.string (bQ q.num.natAbs),.bool false,.string (dm q)]=Q (-q):=by
 rw[qle];have h1:q.num<0:=pI
 rw[decide_eq_false (show¬ -q.num<0 by omega)]
def qe9{b:Bool}{s:ByteArray}(h:qB b s=false):∃z:Int,b=decide (z<0)∧s=bQ z.natAbs:=by
 unfold qB at h;rw[Bool.or_eq_false_iff] at h;obtain⟨h1,h2⟩:=h;have hs:bQ (mD s.data.toList)=s:=qcT (s:=s) (fun e=>by rw[e] at h2;cases h2)
 by_cases h0:mD s.data.toList=0
 ·refine⟨0,?_,?_⟩
  ·rw[h0,iT] at hs;rw[<-hs,Ha] at h1
   simpa using h1
  ·rw[h0] at hs;rw[<-hs];rfl
 ·refine⟨if b then-(mD s.data.toList:Int) else mD s.data.toList,?_,?_⟩
  ·cases b
   ·simp only[Bool.false_eq_true,if_false];rw[decide_eq_false ae]
   ·simp only[if_true];rw[decide_eq_true ae]
  ·cases b
   ·simpa using hs.symm
   ·simpa using hs.symm
noncomputable def isQ(b1:Bool)(s1:ByteArray)(b2:Bool)(s2:ByteArray):Bool:= @decide (∃q:Rat,Value.agg #[.bool b1,.string s1,.bool b2,.string s2]=Q q) (Classical.propDecidable _)
theorem JV{b1:Bool}{s1:ByteArray}{b2:Bool}{s2:ByteArray}:isQ b1 s1 b2 s2=true↔∃q:Rat,b1=decide (q.num<0)∧s1=bQ q.num.natAbs∧b2=false∧s2=dm q:=by
 unfold isQ;rw[@decide_eq_true_iff _ (Classical.propDecidable _)]
 constructor
 ·rintro⟨q,h⟩;unfold Q at h;simp only[Value.agg.injEq,Array.mk.injEq,List.cons.injEq,Value.bool.injEq,Value.string.injEq,and_true] at h;exact⟨q,h⟩
 ·rintro⟨q,rfl,rfl,rfl,rfl⟩;exact⟨q,rfl⟩
def JW{b1:Bool}{s1:ByteArray}{b2:Bool}{s2:ByteArray}(h:¬∃q:Rat,b1=decide (q.num<0)∧s1=bQ q.num.natAbs∧b2=false∧s2=dm q):isQ b1 s1 b2 s2=false:=by
 rw[<-JV] at h;simpa using h
theorem qfa(z:Int):qB (decide (z<0)) (bQ z.natAbs)=false:=by
 unfold qB;rw[Bool.or_eq_false_iff];refine⟨?_,?_⟩
 ·rw[nK]
  by_cases h:z.natAbs=0
  ·have:z=0:=ae
   subst this;rfl
  ·simp[h]
 ·have:=qcU z.natAbs;unfold qhH at this
  simpa using this
theorem qnD(q:Rat):qB false (dm q)=false:=by
 have h1:(0:Int)<=q.den:=ae;unfold dm
 split
 ·unfold qB;rfl
 ·have:=qfa (q.den:Int)
  rwa [decide_eq_false ae,Int.natAbs_natCast] at this
theorem qpU{b1:Bool}{s1:ByteArray}{b2:Bool}{s2:ByteArray}(h:qB b1 s1=true):isQ b1 s1 b2 s2=false:=JW fun⟨q,h1,h2,_,_⟩=>by
 rw[h1,h2,qfa] at h;cases h
theorem qpV{b1:Bool}{s1:ByteArray}{b2:Bool}{s2:ByteArray}(h:qB b2 s2=true):isQ b1 s1 b2 s2=false:=JW fun⟨q,h1,h2,h3,h4⟩=>by
 rw[h3,h4,qnD] at h;cases h
def qpW{b1:Bool}{s1:ByteArray}{s2:ByteArray}:isQ b1 s1 true s2=false:=JW fun⟨q,h1,h2,h3,h4⟩=>by cases h3
theorem qpX{b1:Bool}{s1:ByteArray}{s2:ByteArray}(h:qB b1 s1=false)(h2:s2=⟨#[]⟩):isQ b1 s1 false s2=true:=by
 obtain⟨z,rfl,rfl⟩:=qe9 h;exact JV.2 ⟨(z:Rat),by rw[Rat.num_intCast],by rw[Rat.num_intCast],rfl,by unfold dm;rw[Rat.den_intCast,if_pos rfl,h2]⟩
def FZ{m n:Nat}(h:bQ m=bQ n):m=n:=QD.1 h
def qnE{z:Int}{d:Nat}(hd:0<d)(h:Nat.gcd z.natAbs d=1):∃q:Rat,q.num=z∧q.den=d:=⟨⟨z,d,ae,h⟩,rfl,rfl⟩
def qjE{z:Int}{d:Nat}(hd:0<d)(h1:d≠1)(h:Nat.gcd z.natAbs d=1):isQ (decide (z<0)) (bQ z.natAbs) false (bQ d)=true:=by
 obtain⟨q,rfl,rfl⟩:=qnE hd h;exact JV.2 ⟨q,rfl,rfl,rfl,by unfold dm;rw[if_neg h1]⟩
def qfb{z:Int}{d:Nat}(hd:0<d)(h:d=1∨Nat.gcd z.natAbs d≠1){b:Bool}:isQ b (bQ z.natAbs) false (bQ d)=false:=JW fun⟨q,h1,h2,h3,h4⟩=>by
 unfold dm at h4;have h2:=FZ h2
 split at h4
 ·rename_i h5
  have:bQ d=bQ 0:=(by rw[h4,iT]);have:=FZ this;omega
 ·rename_i h5
  have:=FZ h4;subst this;rcases h with h|h
  ·exact h5 h
  ·exact h (by rw[h2];exact q.reduced)
def qlf{b:Bool}{s:ByteArray}(h:((if qB b s=true then(5:Int) else 0) !=0)=false):qB b s=false:=by
 cases hb:qB b s
 ·rfl
 ·rw[hb] at h;cases h
def qlg{b:Bool}{s:ByteArray}(h:((if qB b s=true then(5:Int) else 0) !=0)=true):qB b s=true:=by
 cases hb:qB b s
 ·rw[hb] at h;cases h
 ·rfl
def qnF{b:Bool}{s:ByteArray}(h:((b==false)&&(s==⟨#[]⟩))=true):b=false∧s=⟨#[]⟩:=by
 rw[Bool.and_eq_true] at h;exact⟨eq_of_beq h.1,qdM h.2⟩
def qnG{z:Int}(h:((decide (z<0)==false)&&(bQ z.natAbs==⟨#[]⟩))=false):z≠0:=fun e=>by
 subst e;rw[show(0:Int).natAbs=0 from rfl,iT,Ha] at h;cases h
def qfc{e:Int}(h:decide (yP e 1<=0)=true):e<=1:=by
 have:=of_decide_eq_true h;unfold yP at this
 by_cases h1:e<1
 ·omega
 ·rw[if_neg h1] at this
  by_cases h2:1<e
  ·rw[if_pos h2] at this;omega
  ·omega
def qfd{e:Int}(h:decide (yP e 1<=0)=false):1<e:=by
 have:=of_decide_eq_false h;unfold yP at this
 by_cases h1:e<1
 ·rw[if_pos h1] at this;omega
 ·rw[if_neg h1] at this
  by_cases h2:1<e
  ·exact h2
  ·rw[if_neg h2] at this;omega
theorem qpY{z e:Int}(h0:e≠0)(h:e<=1):isQ (decide (z<0)) (bQ z.natAbs) (decide (e<0)) (bQ e.natAbs)=false:=by
 by_cases hn:e<0
 ·rw[decide_eq_true hn];exact qpW
 ·rw[decide_eq_false hn];exact qfb ae (.inl ae)
def qjF{z e:Int}(h:(!((decide (((Int.gcd z e:Nat):Int)<0)==decide ((1:Int)<0))&&(bQ ((Int.gcd z e:Nat):Int).natAbs==bQ (1:Int).natAbs)))=true):Int.gcd z e≠1:=fun e1=>by
 rw[e1] at h;simp[yO] at h
def qjG{z e:Int}(h:(!((decide (((Int.gcd z e:Nat):Int)<0)==decide ((1:Int)<0))&&(bQ ((Int.gcd z e:Nat):Int).natAbs==bQ (1:Int).natAbs)))=false):Int.gcd z e=1:=by
 rw[Bool.not_eq_false',Bool.and_eq_true,yO] at h;have:=FZ (of_decide_eq_true h.2)
 simpa using this
theorem qpZ{z e:Int}(h:1<e)(hg:Int.gcd z e≠1):isQ (decide (z<0)) (bQ z.natAbs) (decide (e<0)) (bQ e.natAbs)=false:=by
 rw[decide_eq_false (show¬e<0 by omega)];exact qfb ae (.inr hg)
theorem qnH{z e:Int}(h:1<e)(hg:Int.gcd z e=1):isQ (decide (z<0)) (bQ z.natAbs) (decide (e<0)) (bQ e.natAbs)=true:=by
 rw[decide_eq_false (show¬e<0 by omega)];exact qjE ae ae hg
end Go.Via
