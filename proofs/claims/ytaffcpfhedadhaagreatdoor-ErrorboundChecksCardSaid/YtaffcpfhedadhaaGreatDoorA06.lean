/-
  Part 6 (chapter 32): lemmas, walks. Each theorem states its own conditions.
-/
import GoSem.Core.World
import Derived.MapKept
import Derived.WalkKit
import Derived.WalkSpells
import Derived.WalkLawsBesides
import Derived.Deep.LoopGhost
import Derived.Test.YtaffcpfhedadhaaGreatDoorA05
set_option linter.all false
set_option maxRecDepth 20000
set_option maxHeartbeats 20000000
section
variable{P Q:Prop}{T:Type}{R:T->Prop}
def VE(h:P:=by simpa using hne):=h
end
namespace Go.Via
variable[Mo]
open Go Go.RowKit
def qfJ{B:Bs}{X:Act->World->Prop}:KC (fun s'=>At B s' X):=fun _ _ he h a w hr=>h a w (he.symm.rel hr)
def Gz{P:Program}{bl:List Nat}{ops:Array Oper}{nt:Nat}{t:List (Nat×Value)}{L:List aF}{B:Bs}{X:Act->World->Prop}{l:List Oper}{b:Bool}(d:Nat)(hx:look t d=some (.bool b))
 (hT:b=true->aU P bl ops l ⟨nt,(d,.bool true)::t,L⟩ (fun s'=>At B s' X))(hF:b=false->aU P bl ops l ⟨nt,(d,.bool false)::t,L⟩ (fun s'=>At B s' X)):aU P bl ops l ⟨nt,t,L⟩ (fun s'=>At B s' X):=by
 have key:∀c:Bool,b=c->E8 ⟨nt,(d,.bool c)::t,L⟩ ⟨nt,t,L⟩:=fun c hc=>⟨rfl,rfl,fun k=>by
 by_cases e:d=k
 ·subst e;rw[dO,<-hc];exact hx.symm
 ·rw[cZ e]⟩
 cases hb:b
 ·exact aU.kc qfJ l _ _ (key false hb) (hF hb)
 ·exact aU.kc qfJ l _ _ (key true hb) (hT hb)
def aP{P:Program}{bl:List Nat}{ops:Array Oper}{nt:Nat}{t:List (Nat×Value)}{L:List aF}{B:Bs}{X:Act->World->Prop}{l:List Oper}{v:Value}(d:Nat)(v':Value)(hx:look t d=some v)(hv:v=v')
 (h:aU P bl ops l ⟨nt,(d,v')::t,L⟩ (fun s'=>At B s' X)):aU P bl ops l ⟨nt,t,L⟩ (fun s'=>At B s' X):=by
 refine aU.kc qfJ l ⟨nt,(d,v')::t,L⟩ _ ⟨rfl,rfl,fun k=>?_⟩ h
 by_cases e:d=k
 ·subst e;rw[dO,<-hv];exact hx.symm
 ·rw[cZ e]
section
variable{B:Bs}{s:St}{k:Act->World->Prop}{Q:Exit->Act->World->Prop}{id id':Nat}
def quP(h:At B s k):At B s (Exit.then k Q .normal):=h
def quQ(h:At B s (Q .ret)):At B s (Exit.then k Q .ret):=h
def quR(h:At B s (Q (.exit id))):At B s (Exit.then k Q (.exit id)):=h
def quU(h:At B s (Q .normal)):At B s (Exit.inBlock id Q .normal):=h
def quV(h:At B s (Q .ret)):At B s (Exit.inBlock id Q .ret):=h
def quW(h:At B s (Q .normal)):At B s (Exit.inBlock id Q (.exit id)):=fun a w hr=>by
 show if id=id then _ else _
 rw[if_pos rfl];exact h a w hr
def Td(hne:(id'==id)=false)(h:At B s (Q (.exit id'))):At B s (Exit.inBlock id Q (.exit id')):=fun a w hr=>by
 show if id'=id then _ else _
 rw[if_neg VE];exact h a w hr
end
end Go.Via
namespace Go.Via
open Go
def qmY{a b:Int}{m n:Nat}(ha:ji a<=m)(hb:ji b<=n):ji (Int.gcd a b:Int)<=m+n:=by
 unfold ji at*;simp only[Int.natAbs_natCast];rw[Int.gcd_eq_natAbs_gcd_natAbs]
 by_cases h:a.natAbs=0
 ·rw[h,Nat.gcd_zero_left];omega
 ·have:=Vp a.natAbs b.natAbs h;omega
def JS{a b q r:Int}(hb:b≠0)(h:r+b*q=a)(h0:0<=r)(h1:r<b.natAbs):q=a/b∧r=a%b:=by
 rcases Int.lt_or_lt_of_ne hb with hb'|hb'
 ·have:=(Int.ediv_emod_unique' hb').2 ⟨h,h0,ae⟩;exact⟨this.1.symm,this.2.symm⟩
 ·have:=(Int.ediv_emod_unique hb').2 ⟨h,h0,ae⟩;exact⟨this.1.symm,this.2.symm⟩
def qfK(a b:Int):(a.natAbs:Int)=(b.natAbs:Int)*((a.natAbs/b.natAbs:Nat):Int)+((a.natAbs%b.natAbs:Nat):Int):=by
 rw[<-Int.natCast_mul,<-Int.natCast_add,Nat.div_add_mod]
def VF{a b:Int}(hb:b≠0)(h:¬a<0∨a.natAbs%b.natAbs=0):
 (if(decide (a<0) !=decide (b<0))=true then-((a.natAbs/b.natAbs:Nat):Int) else((a.natAbs/b.natAbs:Nat):Int))=a/b∧((a.natAbs%b.natAbs:Nat):Int)=a%b:=by
 have hd:=qfK a b;have hlt:a.natAbs%b.natAbs<b.natAbs:=Nat.mod_lt _ ae
 generalize a.natAbs/b.natAbs=q at*
 generalize a.natAbs%b.natAbs=r at*
 refine JS hb ?_ ae ae
 by_cases h1:a<0<;>by_cases h2:b<0
 ·have ea:(a.natAbs:Int)= -a:=ae
  have eb:(b.natAbs:Int)= -b:=ae;rw[ea,eb] at hd;simp[h1,h2];have:r=0:=ae;subst this;simp at hd ⊢;have e: -b*(q:Int)= -(b*q):=Int.neg_mul _ _;rw[e] at hd;omega
 ·have ea:(a.natAbs:Int)= -a:=ae
  have eb:(b.natAbs:Int)=b:=ae;rw[ea,eb] at hd;simp[h1,h2];have:r=0:=ae;subst this;simp at hd ⊢;rw[Int.mul_neg];omega
 ·have ea:(a.natAbs:Int)=a:=ae
  have eb:(b.natAbs:Int)= -b:=ae;rw[ea,eb] at hd;simp[h1,h2];rw[Int.neg_mul] at hd;rw[Int.mul_neg];omega
 ·have ea:(a.natAbs:Int)=a:=ae
  have eb:(b.natAbs:Int)=b:=ae;rw[ea,eb] at hd;simp[h1,h2];omega
def qfL{a b:Int}(hb:b≠0)(h:a<0)(hr:a.natAbs%b.natAbs≠0):
 (if(decide (a<0) !=decide (b<0))=true then-((a.natAbs/b.natAbs+1:Nat):Int) else((a.natAbs/b.natAbs+1:Nat):Int))=a/b∧((b.natAbs-a.natAbs%b.natAbs:Nat):Int)=a%b:=by
 have hd:=qfK a b;have hlt:a.natAbs%b.natAbs<b.natAbs:=Nat.mod_lt _ ae
 generalize a.natAbs/b.natAbs=q at*
 generalize a.natAbs%b.natAbs=r at*
 refine JS hb ?_ ae ae;have ea:(a.natAbs:Int)= -a:=ae
 by_cases h2:b<0
 ·have eb:(b.natAbs:Int)= -b:=ae
  rw[ea,eb] at hd;simp[h,h2];rw[Int.neg_mul] at hd;rw[Int.mul_add];omega
 ·have eb:(b.natAbs:Int)=b:=ae
  rw[ea,eb] at hd;simp[h,h2];rw[Int.mul_neg,Int.mul_add];omega
def Tf{n d:Int}(hd:0<d)(h1:d/(Int.gcd n d:Int)=1):Value.agg #[.bool (decide (n/(Int.gcd n d:Int)<0)),.string (bH (n/(Int.gcd n d:Int)).natAbs),aQ,aS]=Q (Rat.divInt n d):=by
 rw[VD hd,if_pos h1]
def Ti{n d:Int}(hd:0<d)(h1:d/(Int.gcd n d:Int)≠1):Value.agg #[.bool (decide (n/(Int.gcd n d:Int)<0)),.string (bH (n/(Int.gcd n d:Int)).natAbs),.bool (decide (d/(Int.gcd n d:Int)<0)),.string (bH (d/(Int.gcd n d:Int)).natAbs)]=Q (Rat.divInt n d):=by
 rw[VD hd,if_neg h1]
 congr 5
 have:0<=d/(Int.gcd n d:Int):=Int.ediv_nonneg ae ae;simp;omega
def qrR{n d:Int}(hd:d≠0):(Int.gcd n d:Int)≠0:=by
 have:Int.gcd n d≠0:=(by rw[Ne,Int.gcd_eq_zero_iff];omega);omega
def qbj{d:Int}(h:decide (d.sign<0)=true):d<0:=by
 simpa using h
def qbk{d:Int}(h:decide (d.sign<0)=false)(h0:d≠0):0<d:=by
 simp at h;omega
theorem qrS(a b:Int):ji (a+b)<=ji a+ji b+1:=LD (Nat.le_refl _) (Nat.le_refl _)
theorem qrT(a b:Int):ji (a-b)<=ji a+ji b+1:=qmV (Nat.le_refl _) (Nat.le_refl _)
theorem qrU(a b:Int):ji (a*b)<=ji a+ji b:=lV (Nat.le_refl _) (Nat.le_refl _)
theorem qrV(a:Int):ji (-a)<=ji a:=qbg (Nat.le_refl _)
theorem qrW(a b:Int):ji (Int.gcd a b:Int)<=ji a+ji b:=qmY (Nat.le_refl _) (Nat.le_refl _)
theorem Yl(q:Rat):ji q.num<=bY q:=nS (Nat.le_refl _)
theorem Ym(q:Rat):ji (q.den:Int)<=bY q:=kT (Nat.le_refl _)
theorem iQ(a b:Rat):bY (a+b)<=bY a+bY b+1:=qbh (Nat.le_refl _) (Nat.le_refl _)
theorem gX(a b:Rat):bY (a-b)<=bY a+bY b+1:=DK (Nat.le_refl _) (Nat.le_refl _)
theorem bW(a b:Rat):bY (a*b)<=bY a+bY b:=xC (Nat.le_refl _) (Nat.le_refl _)
theorem qfM(a b:Rat):bY (a/b)<=bY a+bY b:=Gy (Nat.le_refl _) (Nat.le_refl _)
theorem Na(a:Rat):bY (-a)<=bY a:=qbi (Nat.le_refl _)
theorem qxs(a:Int):nb a.natAbs<=ji a:=Nat.le_refl _
end Go.Via
