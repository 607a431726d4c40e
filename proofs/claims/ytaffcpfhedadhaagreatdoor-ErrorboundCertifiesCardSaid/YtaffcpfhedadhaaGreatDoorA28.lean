/-
  Part 28 (chapter 32): lemmas, walks. Each theorem states its own conditions.
-/
import Derived.Test.YtaffcpfhedadhaaGreatDoorA11
import Derived.Test.YtaffcpfhedadhaaGreatDoorA12
import Derived.Test.YtaffcpfhedadhaaGreatDoorA13
import Derived.Test.YtaffcpfhedadhaaGreatDoorA18
import Derived.Test.YtaffcpfhedadhaaGreatDoorA25
import Derived.Test.YtaffcpfhedadhaaGreatDoorA27
set_option linter.all false
set_option maxRecDepth 20000
set_option maxHeartbeats 20000000
section
variable{P Q:Prop}{T:Type}{R:T->Prop}
def rX(h:P:=by refine E0 ?_;exact eB (by unfold UO;first|(simp_all;done)|(simp_all;omega)|(simp_all;intros;omega))):=h
end
namespace Go.Via
open Go
structure RtG(n:Nat) where
 lo:Nat
 hi:Nat
 lx:SR (nb lo)
 hx:SR (nb hi)
 h1:lo*lo<=n
 h2:n<hi*hi
 h3:hi<=n+1
def qbF(n:Nat):n<(n+1)*(n+1):=Nat.lt_of_lt_of_le (Nat.lt_succ_self n) (Nat.le_mul_of_pos_right _ (by omega))
def qgl{n lo hi:Nat}(h1:lo*lo<=n)(h2:n<hi*hi):lo<hi:=UA (Nat.lt_of_le_of_lt h1 h2)
def qid{n lo hi:Nat}(h1:lo*lo<=n)(h2:n<hi*hi)(h:¬lo+1<hi):bQ n=lo:=by
 have h0:=qgl h1 h2;have:hi=lo+1:=(by omega);subst this;exact CY h1 h2
theorem qie:D8 2=[2]:=zq (by omega) (by omega) (by omega)
theorem Pq:nb 2=1:=by have h1:=ng (n:=2) (k:=1) (by omega);have h2:=CP (u:=2) (by omega);omega
theorem qe9{a r:Rat}{u:Int}(h:dE a=0):jv a u r=u*dE r:=by unfold jv;rw[if_pos h]
theorem WI{a r:Rat}{u:Int}(h:dE a≠0)(h2:u*dE r=0∨dE a=u*dE r):jv a u r=dE a:=by unfold jv;rw[if_neg h,if_pos h2]
theorem qfa{a r:Rat}{u:Int}(h:dE a≠0)(h2:u*dE r≠0)(h3:dE a≠u*dE r):jv a u r=dE a*nD (a*a) r:=by unfold jv;rw[if_neg h,if_neg (by rintro(e|e);exact h2 e;exact h3 e)]
theorem m3{a b:Int}(ha:a= -1∨a=0∨a=1)(hb:b= -1∨b=0∨b=1):a*b= -1∨a*b=0∨a*b=1:=by
 rcases ha with rfl|rfl|rfl<;>rcases hb with rfl|rfl|rfl<;>simp
def qbG(a r:Rat){u:Int}(hu:u= -1∨u=0∨u=1):jv a u r= -1∨jv a u r=0∨jv a u r=1:=by
 unfold jv
 split
 ·exact m3 hu (Dl r)
 ·split
  ·exact Dl a
  ·exact m3 (Dl a) (qbp _ _)
section
variable{a r s:Rat}{u v:Int}
theorem WJ(h:jv a u r≠v*dE s∨jv a u r=0)(h2:v*dE s<jv a u r):Ll a u r v s=1:=by unfold Ll;rw[if_pos h,if_pos h2]
theorem WL(h:jv a u r≠v*dE s∨jv a u r=0)(h2:¬v*dE s<jv a u r):Ll a u r v s=jv a u r-v*dE s:=by unfold Ll;rw[if_pos h,if_neg h2]
theorem qfb(h:¬jv a u r≠v*dE s)(h2:¬jv a u r=0):Ll a u r v s=jv a u r*jv (a*a+r-s) (u*dE a) (4*(a*a*r)):=by
 unfold Ll;rw[if_neg (by rintro(e|e);exact h e;exact h2 e)]
end
def qbH(x:Rl):mF x= -1∨mF x=0∨mF x=1:=by unfold mF;split<;>simp
def qbI:bV 4<=2:=mY (z:=4) (by omega) (by omega)
def qj2:Rat.divInt 2 1=2:=by decide+kernel
def qlZ:Rat.divInt 4 1=4:=by decide+kernel
theorem qif{f:Qd}{t:Rl}(h:dE t.r=0):lI f t=⟨vT f t.p,0,0⟩:=by unfold lI;rw[if_pos h]
theorem qig{f:Qd}{t:Rl}(h:dE t.r≠0):lI f t=⟨f.c0+f.c2*(t.r-t.p*t.p),f.c1+2*(t.p*f.c2),0⟩:=by unfold lI;rw[if_neg h]
def qbJ{f:Qd}{t:Rl}{m n:Nat}(hf:tJ f<=m)(ht:gz t<=n):tJ (lI f t)<=3*m+4*n+6:=by
 have e0:=Nat.le_trans (o7 f) hf;have e1:=Nat.le_trans (o8 f) hf;have e2:=Nat.le_trans (pV f) hf;have t1:=Nat.le_trans (rD t) ht;have t2:=Nat.le_trans (xO t) ht;have z0:=vX;unfold lI
 split
 ·have h1:=wV f t.p;refine F6 ?_ ?_ ?_<;>dsimp only<;>omega
 ·have l1:=aS t.p t.p;have l2:=bU t.r (t.p*t.p);have l3:=aS f.c2 (t.r-t.p*t.p);have l4:=cO f.c0 (f.c2*(t.r-t.p*t.p));have l5:=aS t.p f.c2;have l6:=aS 2 (t.p*f.c2);have l7:=cO f.c1 (2*(t.p*f.c2));have l8:=EM;refine F6 ?_ ?_ ?_<;>dsimp only<;>omega
def ja(f:Ln):Nat:=max (max (bV f.x0) (bV f.x1)) (max (bV f.y0) (bV f.y1))
def qK(f:Ln):bV f.x0<=ja f:=by unfold ja;omega
def qL(f:Ln):bV f.x1<=ja f:=by unfold ja;omega
def qM(f:Ln):bV f.y0<=ja f:=by unfold ja;omega
def qO(f:Ln):bV f.y1<=ja f:=by unfold ja;omega
def qbK{f g:Ln}{n:Nat}(hf:ja f<=n)(hg:ja g<=n):tJ (d2 f g)<=8*n+20:=by
 have a0:=Nat.le_trans (qK f) hf;have a1:=Nat.le_trans (qL f) hf;have a2:=Nat.le_trans (qM f) hf;have a3:=Nat.le_trans (qO f) hf;have b0:=Nat.le_trans (qK g) hg;have b1:=Nat.le_trans (qL g) hg;have b2:=Nat.le_trans (qM g) hg;have b3:=Nat.le_trans (qO g) hg;have s0:=bU f.x0 g.x0;have s1:=bU f.x1 g.x1;have s2:=bU f.y0 g.y0;have s3:=bU f.y1 g.y1;have z:=EM;unfold d2;refine F6 ?_ ?_ ?_<;>dsimp only
 ·have:=cO ((f.x0-g.x0)*(f.x0-g.x0)) ((f.y0-g.y0)*(f.y0-g.y0));have:=aS (f.x0-g.x0) (f.x0-g.x0);have:=aS (f.y0-g.y0) (f.y0-g.y0);omega
 ·have:=aS 2 ((f.x0-g.x0)*(f.x1-g.x1)+(f.y0-g.y0)*(f.y1-g.y1));have:=cO ((f.x0-g.x0)*(f.x1-g.x1)) ((f.y0-g.y0)*(f.y1-g.y1));have:=aS (f.x0-g.x0) (f.x1-g.x1);have:=aS (f.y0-g.y0) (f.y1-g.y1);omega
 ·have:=cO ((f.x1-g.x1)*(f.x1-g.x1)) ((f.y1-g.y1)*(f.y1-g.y1));have:=aS (f.x1-g.x1) (f.x1-g.x1);have:=aS (f.y1-g.y1) (f.y1-g.y1);omega
def Su{m n:Nat}(h:(lX m n !=0)=true):m≠n:=fun e=>by subst e;unfold lX at h;simp at h
def Sz{m n:Nat}(h:(lX m n !=0)=false):m=n:=by
 unfold lX at h
 by_cases h1:m<n
 ·simp[h1] at h
 ·by_cases h2:n<m
  ·simp[h1,h2] at h
  ·omega
theorem qj3{q:Rat}(h:decide (q.num<0)=true):Bj q=false:=by
 have:=of_decide_eq_true h;unfold Bj;rw[decide_eq_false (by omega)];rfl
theorem qj4{q:Rat}(h:bQ q.num.natAbs*bQ q.num.natAbs≠q.num.natAbs):Bj q=false:=by
 unfold Bj;rw[beq_eq_false_iff_ne.2 h];simp
theorem qj5{q:Rat}(h:bQ q.den*bQ q.den≠q.den):Bj q=false:=by
 unfold Bj;rw[beq_eq_false_iff_ne.2 h];simp
theorem qj6{q:Rat}(h:decide (q.num<0)=false)(h1:bQ q.num.natAbs*bQ q.num.natAbs=q.num.natAbs)(h2:bQ q.den*bQ q.den=q.den):Bj q=true:=by
 have:=of_decide_eq_false h;unfold Bj;rw[h1,h2,decide_eq_true (by omega)];simp
def YM(q:Rat)(h:bQ q.den*bQ q.den=q.den):0<bQ q.den:=by
 have:=q.den_nz;exact Nat.pos_of_ne_zero fun e=>by rw[e] at h;omega
end Go.Via
namespace Go.Proofs.YtaffcpfhedadhaaGreatDoor
open Go Go.Via
end Go.Proofs.YtaffcpfhedadhaaGreatDoor
namespace Go.Via
open Go
def NK(out:List Iv)(t:Rl)(tp:Bool):List Iv:=match out.getLast? with
 |some i=>out.dropLast++[⟨i.f,t,i.fo,tp⟩]
 |none=>out
def jV(out:List Iv)(op h:Bool)(t:Rl):List Iv:=if op=true then NK out t (!h) else if h=true then out++[⟨t,t,false,false⟩] else out
def pK(here:Rl->Bool)(btw:Rl->Rl->Bool):List Rl->List Iv->Bool->List Iv
 |[],out,_=>out
 |[t],out,op=>jV out op (here t) t
 |t::u::ts,out,op=>pK here btw (u::ts) (if btw t u=true∧here t=false then jV out op (here t) t++[⟨t,u,true,true⟩] else jV out op (here t) t) (btw t u)
theorem uF(out:List Iv)(i:Iv)(t:Rl)(tp:Bool):NK (out++[i]) t tp=out++[⟨i.f,t,i.fo,tp⟩]:=by
 unfold NK;rw[List.getLast?_append];simp
theorem sV{here:Rl->Bool}{btw:Rl->Rl->Bool}:∀{ts:List Rl} {out:List Iv},(pK here btw ts out false=out++(Nk here btw none ts).map fun p=>G6 p.1 p.2)∧∀i:Iv,ts≠[]->pK here btw ts (out++[i]) true=out++(Nk here btw (some i.b) ts).map fun p=>G6 p.1 p.2
 |[],out=>by
  refine⟨by simp[pK,Nk],fun i h=>absurd rfl h⟩
 |[t],out=>by
  refine⟨?_,fun i _=>?_⟩
  ·unfold pK Nk jV;cases here t<;>simp[G6]
  ·unfold pK Nk jV;rw[if_pos rfl,uF];simp[G6,Iv.b]
 |t::u::ts,out=>by
  refine⟨?_,fun i _=>?_⟩
  ·unfold pK Nk jV;cases hh:here t<;>cases hb:btw t u<;>simp only[Bool.false_eq_true,if_false,if_true,and_true,and_false,true_and,false_and,reduceIte]
   ·exact(sV (ts:=u::ts) (out:=out)).1
   ·exact(sV (ts:=u::ts) (out:=out)).2 ⟨t,u,true,true⟩ (by simp)
   ·rw[(sV (ts:=u::ts) (out:=out++[_])).1];simp[G6]
   ·exact(sV (ts:=u::ts) (out:=out)).2 ⟨t,t,false,false⟩ (by simp)
  ·unfold pK Nk jV;rw[if_pos rfl,uF];cases hh:here t<;>cases hb:btw t u<;>simp only[Bool.false_eq_true,if_false,if_true,and_true,and_false,true_and,false_and,reduceIte]
   ·rw[(sV (ts:=u::ts) (out:=out++[_])).1];simp[G6,Iv.b]
   ·rw[(sV (ts:=u::ts) (out:=out++[_])).2 ⟨t,u,true,true⟩ (by simp)];simp[G6,Iv.b]
   ·rw[(sV (ts:=u::ts) (out:=out++[_])).1];simp[G6,Iv.b]
   ·exact(sV (ts:=u::ts) (out:=out)).2 ⟨i.f,t,i.fo,false⟩ (by simp)
def iV.setf{α:Type}{c:α->List Value}{k:Nat}(h:iV α c k){l:List α}{i:Nat}{x y:α}{v:List Value}{o n:Nat}(hx:l[i]? =some x)(hy:(c x).take o++v++(c x).drop (o+n)=c y)(hn:o+n<=k):
 (ah c l).take (i*k+o)++v++(ah c l).drop (i*k+o+n)=ah c (l.set i y):=by
 have hi:i<l.length:=(List.getElem?_eq_some_iff.1 hx).1;have e1:(ah c l).take (i*k+o)=(ah c l).take (i*k)++(c x).take o:=by
  rw[List.take_add,<-h.get hx,List.take_take,Nat.min_eq_left (by omega)]
 have e2:(ah c l).drop (i*k+o+n)=(c x).drop (o+n)++(ah c l).drop (i*k+k):=by
  have e3:(ah c l).drop (i*k)=c x++(ah c l).drop (i*k+k):=by
   rw[<-h.get hx,<-List.drop_drop];exact(List.take_append_drop k _).symm
  rw[Nat.add_assoc,<-List.drop_drop,e3,List.drop_append_of_le_length (by rw[h.len];exact hn)]
 rw[e1,e2,<-h.set y hi,<-hy];simp
theorem NL{out:List Iv}{i:Iv}(h:out[out.length-1]? =some i)(t:Rl)(tp:Bool):NK out t tp=out.set (out.length-1) ⟨i.f,t,i.fo,tp⟩:=by
 have hne:out≠[]:=fun e=>by subst e;simp at h
 obtain⟨l,j,rfl⟩:∃l j,out=l++[j]:=⟨out.dropLast,out.getLast hne,(List.dropLast_concat_getLast hne).symm⟩;simp at h;subst h;rw[uF];simp
def uG(op:Int)(a b:Bool):Bool:=if op=1 then a||b else if op=2 then a&&b else a&& !b
end Go.Via
namespace Go.Via
theorem mO{α:Type}{l:List α}{i:Nat}{x:α}{p:α->Bool}(hx:l[i]? =some x):(l.drop i).any p=(p x||(l.drop (i+1)).any p):=by
 have:l.drop i=x::l.drop (i+1):=by
  obtain⟨hlt,e⟩:=List.getElem?_eq_some_iff.1 hx;rw[List.drop_eq_getElem_cons hlt,e]
 rw[this,List.any_cons]
end Go.Via
namespace Go.Via
theorem Pv{x:Rl}:∀{l:List Rl} {k:Nat},k<=l.length->(∀j y,j<k->l[j]? =some y->bK y x<0)->(∀y,l[k]? =some y->¬bK y x<0∧bK y x≠0)->ry x l=l.take k++x::l.drop k
 |[],k,hk,_,_=>by simp at hk;subst hk;rfl
 |y::l,0,_,_,h=>by
  have:=h y rfl;unfold ry;rw[if_neg this.1,if_neg this.2];rfl
 |y::l,k+1,hk,hall,h=>by
  have h0:=hall 0 y (by omega) rfl;unfold ry;rw[if_pos h0,Pv (by simpa using hk) (fun j z hj hz=>hall (j+1) z (by omega) (by simpa using hz)) (fun z hz=>h z (by simpa using hz))]
  rfl
theorem WM{x:Rl}:∀{l:List Rl} {k:Nat} {y:Rl},l[k]? =some y->(∀j y,j<k->l[j]? =some y->bK y x<0)->¬bK y x<0->bK y x=0->ry x l=l
 |[],k,y,hy,_,_,_=>by simp at hy
 |z::l,0,y,hy,_,h1,h2=>by
  simp at hy;subst hy;unfold ry;rw[if_neg h1,if_pos h2]
 |z::l,k+1,y,hy,hall,h1,h2=>by
  unfold ry;rw[if_pos (hall 0 z (by omega) rfl),WM (l:=l) (k:=k) (by simpa using hy) (fun j w hj hw=>hall (j+1) w (by omega) (by simpa using hw)) h1 h2]
theorem SA{l:List Rl}{i:Nat}{x:Rl}(hx:l[i]? =some x):dW (l.take (i+1))=ry x (dW (l.take i)):=by
 rw[<-dZ hx];unfold dW;rw[List.foldl_append];rfl
def SC(x:Rl):∀l:List Rl,(ry x l).length<=l.length+1
 |[]=>by simp[ry]
 |y::l=>by
  have:=SC x l;unfold ry;split
  ·simp;omega
  ·split<;>simp
def Px(l:List Rl):(dW l).length<=l.length:=by
 have:∀(l o:List Rl),(l.foldl (fun o x=>ry x o) o).length<=o.length+l.length:=by
  intro l
  induction l with
  |nil=>intro o;simp
  |cons x l ih=>intro o;rw[List.foldl_cons];have:=ih (ry x o);have:=SC x o;simp;omega
 have:=this l [];unfold dW;simpa using this
def SE{p:Rl->Prop}{x:Rl}(hx:p x):∀{l:List Rl},(∀y∈l,p y)->∀y∈ry x l,p y
 |[],_,y,hy=>by simp[ry] at hy;rw[hy];exact hx
 |z::l,h,y,hy=>by
  unfold ry at hy
  split at hy
  ·rcases List.mem_cons.1 hy with e|e
   ·rw[e];exact h z (List.mem_cons_self ..)
   ·exact SE hx (fun w hw=>h w (List.mem_cons_of_mem _ hw)) y e
  ·split at hy
   ·exact h y hy
   ·rcases List.mem_cons.1 hy with e|e
    ·rw[e];exact hx
    ·exact h y e
def WN{p:Rl->Prop}{l:List Rl}(h:∀y∈l,p y):∀y∈dW l,p y:=by
 have:∀(l o:List Rl),(∀y∈l,p y)->(∀y∈o,p y)->∀y∈l.foldl (fun o x=>ry x o) o,p y:=by
  intro l
  induction l with
  |nil=>intro o _ ho;exact ho
  |cons x l ih=>intro o hl ho;rw[List.foldl_cons];exact ih _ (fun y hy=>hl y (List.mem_cons_of_mem _ hy)) (SE (hl x (List.mem_cons_self ..)) ho)
 exact this l [] h (by simp)
section
variable{α:Type}{c:α->List Value}{k:Nat}
theorem iV.takeR(h:iV α c k):∀(l:List α) (n:Nat),(ah c l).take (n*k)=ah c (l.take n)
 |[],n=>by simp[ah]
 |x::l,0=>by simp[ah]
 |x::l,n+1=>by
  have e:(n+1)*k=(c x).length+n*k:=(by rw[h.len,Nat.succ_mul,Nat.add_comm]);rw[gX,e,List.take_length_add_append,List.take_succ_cons,gX,iV.takeR h l n]
theorem iV.dropR(h:iV α c k):∀(l:List α) (n:Nat),(ah c l).drop (n*k)=ah c (l.drop n)
 |[],n=>by simp[ah]
 |x::l,0=>by simp
 |x::l,n+1=>by
  have e:(n+1)*k=(c x).length+n*k:=(by rw[h.len,Nat.succ_mul,Nat.add_comm]);rw[gX,e,List.drop_length_add_append,List.drop_succ_cons,iV.dropR h l n]
theorem iV.lenTake(h:iV α c k){l:List α}{n:Nat}(hn:n<=l.length):(ah c (l.take n)).length=n*k:=by rw[h.length,List.length_take,Nat.min_eq_left hn]
theorem iV.lenDrop(h:iV α c k)(l:List α)(n:Nat):(ah c (l.drop n)).length=(l.length-n)*k:=by rw[h.length,List.length_drop]
def iV.dropT(h:iV α c k){l:List α}{n cap:Nat}(hc:l.length<=cap)(hn:n<=l.length):((ah c l).drop (if cap=n then 0 else n*k)).take ((l.length-n)*k)=ah c (l.drop n):=by
 by_cases e:cap=n
 ·have:l.length-n=0:=by omega
  rw[if_pos e,this,Nat.zero_mul,List.take_zero,List.drop_of_length_le (by omega)];rfl
 ·rw[if_neg e,h.dropR,List.take_of_length_le];rw[h.lenDrop];exact Nat.le_refl _
end
end Go.Via
namespace Go.Via
theorem uH:∀l:List Iv,(bM l).length=2*l.length
 |[]=>rfl
 |i::l=>by show(i.f::i.t::bM l).length=_;rw[List.length_cons,List.length_cons,uH l,List.length_cons];omega
def WO{l:List Iv}{n:Nat}(h:∀x∈l,jB x<=n):∀y∈bM l,gz y<=n:=fun y hy=>by
 obtain⟨i,hi,he⟩:=List.mem_flatMap.1 hy;have:=h i hi;simp at he;rcases he with rfl|rfl
 ·exact Nat.le_trans (jI i) this
 ·exact Nat.le_trans (jJ i) this
def rF{α:Type}{c:α->List Value}{k:Nat}(h:iV α c k)(hk:0<k){l:List α}{b:Option Nat}(hb:b=none->ah c l=[]):l.length=0∨∃g,b=some g:=by
 by_cases e:l.length=0
 ·exact .inl e
 ·right
  cases b with
  |some g=>exact⟨g,rfl⟩
  |none=>exact absurd (hb rfl) (h.ne hk (by omega))
end Go.Via
namespace Go.Via
open Go
theorem yG{α:Type}{l:List α}{i:Nat}{x:α}(hx:l[i]? =some x):l.drop i=x::l.drop (i+1):=by
 obtain⟨hlt,e⟩:=List.getElem?_eq_some_iff.1 hx;rw[List.drop_eq_getElem_cons hlt,e]
theorem Py(op:Bool->Bool->Bool)(a b:List Iv):kD op a b=pK (fun t=>op (ny a t) (ny b t)) (fun t u=>op (nz a t u) (nz b t u)) (dW (bM (a++b))) [] false:=by
 rw[sV.1];rfl
section
variable{here:Rl->Bool}{btw:Rl->Rl->Bool}{E:List Rl}{i:Nat}{t u:Rl}{out o1:List Iv}{og h w:Bool}
def YN(ht:E[i]? =some t)(he:i+1=E.length)(hh:here t=h):jV out og h t=pK here btw (E.drop i) out og:=by
 rw[yG ht,List.drop_of_length_le (by omega)];unfold pK;rw[hh]
theorem F7(ht:E[i]? =some t)(hu:E[i+1]? =some u)(hh:here t=h)(hw:btw t u=w):
 pK here btw (E.drop i) out og=pK here btw (E.drop (i+1)) (if w=true∧h=false then jV out og h t++[⟨t,u,true,true⟩] else jV out og h t) w:=by
 rw[yG ht,yG hu];rw[pK,hh,hw]
def qbL(ht:E[i]? =some t)(hu:E[i+1]? =some u)(hh:here t=h)(hw:btw t u=w)(h1:w=true)(h2:h=false)(ho:o1=jV out og h t):
 pK here btw (E.drop i) out og=pK here btw (E.drop (i+1)) (o1++[⟨t,u,true,true⟩]) true:=by
 rw[F7 ht hu hh hw,if_pos ⟨h1,h2⟩,ho,h1]
def qfc(ht:E[i]? =some t)(hu:E[i+1]? =some u)(hh:here t=h)(hw:btw t u=w)(h1:w=true)(h2:h=true)(ho:o1=jV out og h t):
 pK here btw (E.drop i) out og=pK here btw (E.drop (i+1)) o1 true:=by
 rw[F7 ht hu hh hw,if_neg (by rw[h2];simp),ho,h1]
def qfd(ht:E[i]? =some t)(hu:E[i+1]? =some u)(hh:here t=h)(hw:btw t u=w)(h1:w=false)(ho:o1=jV out og h t):
 pK here btw (E.drop i) out og=pK here btw (E.drop (i+1)) o1 false:=by
 rw[F7 ht hu hh hw,if_neg (by rw[h1];simp),ho,h1]
end
theorem qfe{out:List Iv}{og h:Bool}{t:Rl}{j:Iv}(h0:og=true)(h1:h=true)(hj:out[out.length-1]? =some j):jV out og h t=out.set (out.length-1) ⟨j.f,t,j.fo,false⟩:=by
 subst h0;subst h1;unfold jV;rw[if_pos rfl,NL hj];rfl
theorem qff{out:List Iv}{og h:Bool}{t:Rl}{j:Iv}(h0:og=true)(h1:h=false)(hj:out[out.length-1]? =some j):jV out og h t=out.set (out.length-1) ⟨j.f,t,j.fo,true⟩:=by
 subst h0;subst h1;unfold jV;rw[if_pos rfl,NL hj];rfl
theorem qfg{out:List Iv}{og h:Bool}{t:Rl}(h0:og=false)(h1:h=true):jV out og h t=out++[⟨t,t,false,false⟩]:=by subst h0;subst h1;rfl
theorem qfh{out:List Iv}{og h:Bool}{t:Rl}(h0:og=false)(h1:h=false):jV out og h t=out:=by subst h0;subst h1;rfl
def qbM(out:List Iv)(og:Bool)(t:Rl):og=true∧out=[]∨0<(jV out og true t).length:=by
 cases og
 ·right;simp[jV]
 ·by_cases h:out=[]
  ·exact .inl ⟨rfl,h⟩
  ·right
   obtain⟨l,j,rfl⟩:∃l j,out=l++[j]:=⟨out.dropLast,out.getLast h,(List.dropLast_concat_getLast h).symm⟩;unfold jV;rw[if_pos rfl,uF];simp
end Go.Via
namespace Go.Proofs.YtaffcpfhedadhaaGreatDoor
open Go Go.RowKit Go.Via
def EO(n:Nat)(hn:nb n<=100000000)(x:SR (nb n)):bW Tryz.prog 162 [⟨x.b,3,NV .i64 (D8 (n)),x.n,false⟩] [x.v] (SR (nb (bQ n))) SR.v (fun z=>[⟨z.b,3,NV .i64 (D8 (bQ n)),z.n,true⟩]):=by
 refine MI 34 Tryz.func162 fun w hL0=>?_;refine A7 ?_;refine(Bl 0 []) (qdO) (fun g0=>?_);refine A1 ?_;refine(Bl 1 [(0,_)]) (nT) (fun g1=>?_);refine jr [_,SR.v (len:=nb 1) ⟨some g1,1,1,by rw[oV];exact Nat.le_refl _⟩] [0,2] rfl rfl (by show _=[some _,some (az (some g1) 0 (nb 1) 1)];rw[oV];rfl) (jF n 1 (by omega) (by rw[oV];omega) x ⟨some g1,1,1,by rw[oV];exact Nat.le_refl _⟩) ⟨pS,⟨_,rfl,by rw[Ux];exact qV⟩,trivial⟩ rfl (.inr fun x b hb=>by rw[List.mem_singleton.1 hb]) (fun zp=>?_);refine A6 ?_;refine El (ι:=RtG n) (fun⟨lo,hi,lx,hx,h1,h2,h3⟩=>([(0,x.v),(3,lx.v),(4,hx.v)],[⟨x.b,3,NV .i64 (D8 (n)),x.n,false⟩,⟨lx.b,3,NV .i64 (D8 (lo)),lx.n,true⟩,⟨hx.b,3,NV .i64 (D8 (hi)),hx.n,true⟩],hi-lo)) ⟨0,n+1,⟨some g0,0,0,by rw[kw];exact Nat.le_refl _⟩,zp,Nat.zero_le _,qbF n,Nat.le_refl _⟩ ?_ (ht:=⟨rfl,(aG rfl (by show az (some g0) 0 0 0=az (some g0) 0 (nb 0) 0;rw[kw])),rfl,trivial⟩) (hL:=(ak [some 0,some 1,some 3] ⟨pR,⟨_,rfl,by rw[O4];exact aC.le_refl _⟩,pR,trivial⟩ rfl rfl));rintro⟨lo,hi,lx,hx,h1,h2,h3⟩;(try dsimp only);have hlo:=qgl h1 h2;have b1:nb lo<=nb n+1:=Nat.le_trans (gK (show lo<=n by omega)) (by omega);have b2:nb hi<=nb n+2:=Nat.le_trans (gK h3) (by have:=zx n 1;rw[oV] at this;omega);have b3:=zx lo hi;have b4:=zx lo 1;have b5:=oV;have b6:=wC (lo+hi) 2;have b7:=nX ((lo+hi)/2) ((lo+hi)/2);refine A4 ?_;refine(Bl 1 [(0,_)]) (nT) (fun g2=>?_);refine jr [_,SR.v (len:=nb 1) ⟨some g2,1,1,by rw[oV];exact Nat.le_refl _⟩] [1,3] rfl rfl (by show _=[some _,some (az (some g2) 0 (nb 1) 1)];rw[oV];rfl) (jF lo 1 (by omega) (by rw[oV];omega) lx ⟨some g2,1,1,by rw[oV];exact Nat.le_refl _⟩) ⟨pS,⟨_,rfl,by rw[Ux];exact qV⟩,trivial⟩ rfl (.inr fun x b hb=>by rw[List.mem_singleton.1 hb]) (fun z1=>?_);refine A1 ?_;refine(Sd [4,2]) (eP (lo+1) hi (by omega) z1 hx) ?_;refine A3 ?_;refine Cd ?_ ?_<;>intro haQ
 ·have hlt:lo+1<hi:=MW haQ;refine A7 ?_;refine(Sc [1,2]) (jF lo hi (by omega) (by omega) lx hx) (fun zs=>?_);refine(Bl 1 [(0,_)]) (nT) (fun g3=>?_);refine jr [_,SR.v (len:=nb 2) ⟨some g3,1,1,by rw[Pq];exact Nat.le_refl _⟩] [5,6] rfl rfl (by show _=[some _,some (az (some g3) 0 (nb 2) 1)];rw[Pq];rfl) (o6 (lo+hi) 2 (by omega) (by omega) (by rw[Pq];omega) zs ⟨some g3,1,1,by rw[Pq];exact Nat.le_refl _⟩) ⟨pS,⟨_,rfl,by rw[qie];exact qV⟩,trivial⟩ rfl (.inr JD) (fun zd0=>?_);obtain⟨zd,rfl⟩:∃z,zd0=Sum.inl z:=by cases zd0 with|inl z=>exact⟨z,rfl⟩|inr h=>exact absurd h.down (by omega)
  refine pq ?_;refine(Sc [7,7]) (jf ((lo+hi)/2) ((lo+hi)/2) (by omega) (by omega) zd.1 zd.1) (fun zt=>?_);refine A1 ?_;refine(Sd [9,0]) (eP ((lo+hi)/2*((lo+hi)/2)) n (by omega) zt x) ?_;refine A3 ?_;refine Cd ?_ ?_<;>intro hbQ
  ·have hc:(lo+hi)/2*((lo+hi)/2)<=n:=vP.1 (of_decide_eq_true hbQ);refine A6 ?_;exact Nl ⟨(lo+hi)/2,hi,zd.1,hx,hc,h2,h3⟩ (hμ:=(by show hi-(lo+hi)/2<hi-lo;omega)) (hL:=(qC [some 0,some 7,some 2]))
  ·have hc:n<(lo+hi)/2*((lo+hi)/2):=Nat.lt_of_not_le fun e=>of_decide_eq_false hbQ (vP.2 e)
   refine A6 ?_;exact Nl ⟨lo,(lo+hi)/2,lx,zd.1,h1,hc,by omega⟩ (hμ:=(by show(lo+hi)/2-lo<hi-lo;omega)) (hL:=(qC [some 0,some 1,some 7]))
 ·have hge:¬lo+1<hi:=Nat.not_lt.2 (Ju haQ);have he:=qid h1 h2 hge;obtain rfl:=he;refine lw ?_;refine aF rfl (aj rfl) (fun w hL=>⟨lx,?_,hL.pk [some 1]⟩);exact rfl
def Pz(q:Rat)(hq:bV q<=4194303:=by omega):aH Tryz.prog 112 #[Q q] (.tuple #[Q (if Bj q=true then mr q else 0),.bool (Bj q)]):=by
 have e1:=I8 hq;have e2:=I9 hq;have r1:=nR q.num.natAbs;have r2:=nR q.den;have m1:=nX (bQ q.num.natAbs) (bQ q.num.natAbs);have m2:=nX (bQ q.den) (bQ q.den);refine uX 40 Tryz.func112 fun w=>?_;refine A2 ?_;refine Bp 4 (fun g0=>?_);refine Al 4 oM (fun g1=>?_);refine A5 ?_;refine L4 0 0 ?_;refine jr [_] [] rfl rfl rfl (uu q (Nat.le_trans hq (Nat.le_of_ble_eq_true rfl))) trivial rfl (.inr qbe) (fun y=>?_);refine Al 3 XP (fun g2=>?_);refine Ss 4 ?_;refine A3 ?_;refine Dp [] [0,1,3,4,2,5,6,7] ?_;refine A4 ?_;refine(Sc [2]) (EO (q.num.natAbs) (by omega) y.1) (fun zn=>?_);refine(Sc [3]) (EO (q.den) (by omega) y.2) (fun zd=>?_);refine A6 ?_;refine Dp [] [0,1,2,3,4,6,7,5,8,9,10,11,12,13,15,16,14,17,18,19] ?_ (hc:=(nV [0,1,3,7,7,31,7,71,255,511,1023,2047,4095,4095,16383,4095,36863,131071,262143,524287] (by kernel_rfl)));refine A3 ?_;refine Rs 17 ?_ ?_<;>intro haQ
 ·have hs17:decide (q.num<0)=true:=haQ;refine A22 ?_;refine(Bu []) (yt) ?_;refine aQ 35 (Q 0) rfl yh.symm ?_;refine Ss 1 ?_;refine A5 ?_;refine bF rfl (bn 1 rfl rfl BG (vs:=[_,_,_,_]) rfl rfl (Nat.le_of_ble_eq_true rfl) rfl) (aj rfl) (fun w hL=>⟨?_,hL.below⟩);rw[qj3 hs17,if_neg (by decide)];rfl
 ·have hs17:decide (q.num<0)=false:=haQ;refine A4 ?_;refine(Sc [5,5]) (jf (bQ q.num.natAbs) (bQ q.num.natAbs) (by omega) (by omega) zn zn) (fun tn=>?_);refine(Sd [7,2]) (eP (bQ q.num.natAbs*bQ q.num.natAbs) q.num.natAbs (by omega) tn y.1) ?_;refine A3 ?_;refine Rs 26 ?_ ?_<;>intro hbQ
  ·have hs24:bQ q.num.natAbs*bQ q.num.natAbs≠q.num.natAbs:=Su hbQ;refine D5 ?_;refine(Bu []) (yt) ?_;refine aQ 35 (Q 0) rfl yh.symm ?_;refine Ss 1 ?_;refine A5 ?_;refine bF rfl (bn 1 rfl rfl BG (vs:=[_,_,_,_]) rfl rfl (Nat.le_of_ble_eq_true rfl) rfl) (aj rfl) (fun w hL=>⟨?_,hL.below⟩);rw[qj4 hs24,if_neg (by decide)];rfl
  ·have hs24:bQ q.num.natAbs*bQ q.num.natAbs=q.num.natAbs:=Sz hbQ;refine A4 ?_;refine(Sc [6,6]) (jf (bQ q.den) (bQ q.den) (by omega) (by omega) zd zd) (fun td=>?_);refine(Sd [8,3]) (eP (bQ q.den*bQ q.den) q.den (by omega) td y.2) ?_;refine A4 ?_;refine Cd ?_ ?_<;>intro hcQ
   ·have hs33:bQ q.den*bQ q.den≠q.den:=Su hcQ;refine A2 ?_;refine(Bu []) (yt) ?_;refine aQ 35 (Q 0) rfl yh.symm ?_;refine Ss 1 ?_;refine A5 ?_;refine bF rfl (bn 1 rfl rfl BG (vs:=[_,_,_,_]) rfl rfl (Nat.le_of_ble_eq_true rfl) rfl) (aj rfl) (fun w hL=>⟨?_,hL.below⟩);rw[qj5 hs33,if_neg (by decide)];rfl
   ·have hs33:bQ q.den*bQ q.den=q.den:=Sz hcQ;refine A6 ?_;refine(Bu [(0,_),(1,_),(2,_)]) (vG) ?_;refine(Sd [5,6]) (iJ (bQ q.num.natAbs) (bQ q.den) false (YM q hs33) (by omega) (by omega) zn zd) ?_;refine Ss 1 ?_;refine A4 ?_;refine bF rfl (bn 1 rfl rfl BG (vs:=[_,_,_,_]) rfl rfl (Nat.le_of_ble_eq_true rfl) rfl) (aj rfl) (fun w hL=>⟨?_,hL.below⟩);rw[qj6 hs17 hs24 hs33,if_pos rfl];rfl
def PD(f:Qd)(t:Rat)(hf:tJ f<=500000:=by omega)(ht:bV t<=500000:=by omega):aH Tryz.prog 80 #[qH f,Q t] (Q (vT f t)):=by
 have f0:=Nat.le_trans (o7 f) hf;have f1:=Nat.le_trans (o8 f) hf;have f2:=Nat.le_trans (pV f) hf;have l1:=aS t f.c2;have l2:=cO f.c1 (t*f.c2);have l3:=aS t (f.c1+t*f.c2);refine nG 17 Tryz.func80 fun w=>?_;refine A2 ?_;refine Bp 12 (fun g0=>?_);refine Bp 4 (fun g1=>?_);refine Al 4 oM (fun g2=>?_);refine A3 ?_;refine Di [] ?_;refine A1 ?_;refine L4 0 0 ?_;refine L4 1 0 ?_;refine A1 ?_;refine L4 0 4 ?_;refine L4 1 0 ?_;refine A1 ?_;refine L4 0 8 ?_;refine Pc (dF t f.c2) ?_;refine Pc (gZ f.c1 (t*f.c2)) ?_;refine Pc (dF t (f.c1+t*f.c2)) ?_;refine Pc (gZ f.c0 (t*(f.c1+t*f.c2))) ?_;refine Ss 2 ?_;refine A3 ?_;refine Dz 2 ?_;exact rfl
def JY(f:Qd)(t:Rl)(hf:tJ f<=100000:=by omega)(ht:gz t<=100000:=by omega):aH Tryz.prog 99 #[qH f,RV t] (qH (lI f t)):=by
 have f0:=Nat.le_trans (o7 f) hf;have f1:=Nat.le_trans (o8 f) hf;have f2:=Nat.le_trans (pV f) hf;have t1:=Nat.le_trans (rD t) ht;have t2:=Nat.le_trans (xO t) ht;have l1:=aS t.p t.p;have l2:=bU t.r (t.p*t.p);have l3:=aS f.c2 (t.r-t.p*t.p);have l4:=aS t.p f.c2;have l5:=aS 2 (t.p*f.c2);have l6:=EM;refine nG 41 Tryz.func99 fun w=>?_;refine A2 ?_;refine Bp 12 (fun g0=>?_);refine Bp 9 (fun g1=>?_);refine Al 12 Gv (fun g2=>?_);refine A6 ?_;refine L4 1 4 ?_;refine Pc (jH t.r) ?_;refine A3 ?_;refine Cd ?_ ?_<;>intro haQ
 ·have hs9:=eq_of_beq haQ;refine A2 ?_;refine uV 0 0 ?_;refine A1 ?_;refine L4 1 0 ?_;refine Pc (PD f t.p) ?_;refine(Bu [(0,_)]) (Z7) ?_;refine Ss 2 ?_;refine A4 ?_;refine Jm 2 ?_;rw[qif hs9,NE]
 ·have hs9:=ne_of_beq_false haQ;refine A4 ?_;refine Pc (iP 2 1) ?_;refine aQ 15 (Q 2) rfl (congrArg Q qj2) ?_;refine Al 4 oM (fun g3=>?_);refine Ss 3 ?_;refine A3 ?_;refine Dp [] [0,1,2,3,4,5,6,7,8,9,14,15,16,17,18,19,20,10,11,12,13,21,22,23,24,25] ?_ (hc:=(nV [0,1,0,4,0,16,0,64,0,256,960,2032,4092,8191,0,16384,0,0,131072,0,524288,1982463,4145151,8388607,16777215,33554431] (by kernel_rfl)));refine A1 ?_;refine L4 0 0 ?_;refine A1 ?_;refine L4 0 8 ?_;refine A1 ?_;refine L4 1 4 ?_;refine A1 ?_;refine L4 1 0 ?_;refine A1 ?_;refine L4 1 0 ?_;refine A1 ?_;refine L4 0 4 ?_;refine L4 3 0 ?_;refine A1 ?_;refine L4 1 0 ?_;refine A1 ?_;refine L4 0 8 ?_;refine Pc (dF t.p t.p) ?_;refine Pc (kL t.r (t.p*t.p)) ?_;refine Pc (dF f.c2 (t.r-t.p*t.p)) ?_;refine Pc (gZ f.c0 (f.c2*(t.r-t.p*t.p))) ?_;refine Pc (dF t.p f.c2) ?_;refine Pc (dF 2 (t.p*f.c2)) ?_;refine Pc (gZ f.c1 (2*(t.p*f.c2))) ?_;refine(Bu [(0,_),(1,_)]) (Z8) ?_;refine Ss 2 ?_;refine A3 ?_;refine Jm 2 ?_;rw[qig hs9,WB]
def BX(a:Rat)(u:Int)(r:Rat)(hu:u= -1∨u=0∨u=1)(ha:bV a<=1000000:=by omega)(hr:bV r<=1000000:=by omega):aH Tryz.prog 109 #[Q a,.int .i64 u,Q r] (.int .i64 (jv a u r)):=by
 have l1:=aS a a;refine pB3 35 Tryz.func109 fun w=>?_;refine A2 ?_;refine Bp 4 (fun g0=>?_);refine Bp 4 (fun g1=>?_);refine A4 ?_;refine Dp [2000000] [0,2,3,1,4,5,6,7] ?_;refine L4 0 0 ?_;refine A1 ?_;refine L4 1 0 ?_;refine Pc (jH a) ?_;refine Pc (jH r) ?_;refine(Aq (u*dE r)) (congrArg some (w3 hu (Dl r))) ?_;refine D5 ?_;refine Cd ?_ ?_<;>intro haQ
 ·have hs15:=eq_of_beq haQ;refine A9 ?_;refine E0 ?_;rw[qe9 hs15]
 ·have hs15:=ne_of_beq_false haQ;refine A5 ?_;refine Rs 22 ?_ ?_<;>intro hbQ
  ·have hs22:=eq_of_beq hbQ;refine KU ?_;refine E0 ?_;rw[WI hs15 (.inl hs22)];rfl
  ·have hs22:=ne_of_beq_false hbQ;refine A7 ?_;refine Cd ?_ ?_<;>intro hcQ
   ·have hs19:=eq_of_beq hcQ;refine A9 ?_;refine E0 ?_;rw[WI hs15 (.inr hs19)];rfl
   ·have hs19:=ne_of_beq_false hcQ;refine A4 ?_;refine Dp [] [0,1,2,4,3,5,6,7] ?_;refine A1 ?_;refine L4 0 0 ?_;refine L4 0 0 ?_;refine L4 1 0 ?_;refine Pc (dF a a) ?_;refine Pc (Ha (a*a) r) ?_;refine(Aq (dE a*nD (a*a) r)) (congrArg some (w3 (Dl a) (qbp _ _))) ?_;refine A4 ?_;refine E0 ?_;rw[qfa hs15 hs22 hs19]
def EP(x:Rl):aH Tryz.prog 56 #[RV x] (.int .i64 (mF x)):=by
 refine uX 5 Tryz.func56 fun w=>?_;refine A2 ?_;refine Bp 9 (fun g0=>?_);refine kN ?_;refine Cd ?_ ?_<;>intro haQ
 ·refine A7 ?_;refine E0 ?_;rw[mF,if_pos haQ]
 ·refine A8 ?_;refine E0 ?_;rw[mF,if_neg (by rw[haQ];decide)]
def Lr(a:Rat)(u:Int)(r:Rat)(v:Int)(s:Rat)(hu:u= -1∨u=0∨u=1)(hv:v= -1∨v=0∨v=1)(ha:bV a<=200000:=by omega)(hr:bV r<=200000:=by omega)(hs:bV s<=200000:=by omega):aH Tryz.prog 54 #[Q a,.int .i64 u,Q r,.int .i64 v,Q s] (.int .i64 (Ll a u r v s)):=by
 have l1:=aS a a;have l2:=cO (a*a) r;have l3:=bU (a*a+r) s;have l4:=aS (a*a) r;have l5:=aS 4 (a*a*r);have l6:=qbI;have m1:=qbG a r hu;have m2:=m3 hv (Dl s);have m3_:=m3 hu (Dl a);refine pB5 60 Tryz.func54 fun w=>?_;refine A2 ?_;refine Bp 4 (fun g0=>?_);refine Bp 4 (fun g1=>?_);refine Bp 4 (fun g2=>?_);refine A4 ?_;refine Dp [2000000] [0,1,2,4,5,3,6,7,8,9] ?_;refine L4 0 0 ?_;refine A1 ?_;refine L4 1 0 ?_;refine A1 ?_;refine L4 2 0 ?_;refine Pc (BX a u r hu) ?_;refine Pc (jH s) ?_;refine(Aq (v*dE s)) (congrArg some (w3 hv (Dl s))) ?_;refine lw ?_;refine Rs 27 ?_ ?_<;>intro haQ
 ·have hs27:jv a u r≠v*dE s:=by have e:=haQ;simpa using e
  refine AL ?_;refine Cd ?_ ?_<;>intro hbQ
  ·have hs33:v*dE s<jv a u r:=of_decide_eq_true hbQ;refine A9 ?_;refine E0 ?_;rw[WJ (.inl hs27) hs33]
  ·have hs33:¬v*dE s<jv a u r:=of_decide_eq_false hbQ;refine A6 ?_;refine(Aq (jv a u r-v*dE s)) (by exact(congrArg some (wi (by omega) (by omega) rfl))) ?_;refine A6 ?_;refine E0 ?_;rw[WL (.inl hs27) hs33]
 ·have hs27:jv a u r=v*dE s:=by have e:=haQ;simpa using e
  refine A6 ?_;refine Cd ?_ ?_<;>intro hbQ
  ·have hs29:jv a u r=0:=eq_of_beq hbQ;refine A8 ?_;refine Cd ?_ ?_<;>intro hcQ
   ·have hs33:v*dE s<jv a u r:=of_decide_eq_true hcQ;refine A9 ?_;refine E0 ?_;rw[WJ (.inr hs29) hs33]
   ·have hs33:¬v*dE s<jv a u r:=of_decide_eq_false hcQ;refine A6 ?_;refine(Aq (jv a u r-v*dE s)) (by exact(congrArg some (wi (by omega) (by omega) rfl))) ?_;refine A6 ?_;refine E0 ?_;rw[WL (.inr hs29) hs33]
  ·have hs29:jv a u r≠0:=ne_of_beq_false hbQ;refine A4 ?_;refine Dq [3000000] [0,1,3,2,4,5,6] ?_;refine L4 0 0 ?_;refine L4 0 0 ?_;refine L4 1 0 ?_;refine Pc (dF a a) ?_;refine Pc (gZ (a*a) r) ?_;refine Al 4 oM (fun g3=>?_);refine Ss 3 ?_;refine A3 ?_;refine Dq [3000000] [1,2,4,0,3,5,6,7,8] ?_;refine L4 0 0 ?_;refine L4 0 0 ?_;refine L4 1 0 ?_;refine Pc (iP 4 1) ?_;refine aQ 42 (Q 4) rfl (congrArg Q qlZ) ?_;refine Pc (dF a a) ?_;refine Pc (dF (a*a) r) ?_;refine Pc (dF 4 (a*a*r)) ?_;refine Al 4 oM (fun g4=>?_);refine Ss 4 ?_;refine A3 ?_;refine Dp [] [0,1,2,4,5,8,3,6,7,9,10,11] ?_;refine A1 ?_;refine L4 3 0 ?_;refine L4 2 0 ?_;refine A1 ?_;refine L4 0 0 ?_;refine L4 4 0 ?_;refine Pc (kL (a*a+r) s) ?_;refine Pc (jH a) ?_;refine(Aq (u*dE a)) (congrArg some (w3 hu (Dl a))) ?_;refine Pc (BX (a*a+r-s) (u*dE a) (4*(a*a*r)) m3_) ?_;refine(Aq (jv a u r*jv (a*a+r-s) (u*dE a) (4*(a*a*r)))) (congrArg some (w3 m1 (qbG _ _ m3_))) ?_;refine A4 ?_;refine E0 ?_;rw[qfb (fun e=>e hs27) hs29]
def EQ(f g:Ln)(hf:ja f<=100000:=by omega)(hg:ja g<=100000:=by omega):aH Tryz.prog 45 #[xh f,xh g] (qH (d2 f g)):=by
 have f0:=Nat.le_trans (qK f) hf;have f1:=Nat.le_trans (qL f) hf;have f2:=Nat.le_trans (qM f) hf;have f3:=Nat.le_trans (qO f) hf;have g0:=Nat.le_trans (qK g) hg;have g1:=Nat.le_trans (qL g) hg;have g2:=Nat.le_trans (qM g) hg;have g3:=Nat.le_trans (qO g) hg;have s0:=bU f.x0 g.x0;have s1:=bU f.x1 g.x1;have s2:=bU f.y0 g.y0;have s3:=bU f.y1 g.y1;have m0:=aS (f.x0-g.x0) (f.x0-g.x0);have m1:=aS (f.y0-g.y0) (f.y0-g.y0);have m2:=aS (f.x0-g.x0) (f.x1-g.x1);have m3:=aS (f.y0-g.y0) (f.y1-g.y1);have m4:=aS (f.x1-g.x1) (f.x1-g.x1);have m5:=aS (f.y1-g.y1) (f.y1-g.y1);have m7:=cO ((f.x0-g.x0)*(f.x1-g.x1)) ((f.y0-g.y0)*(f.y1-g.y1));have z2:=EM;refine nG 55 Tryz.func45 fun w=>?_;refine A2 ?_;refine Bp 16 (fun g0=>?_);refine Bp 16 (fun g1=>?_);refine Al 12 Gv (fun g2=>?_);refine A3 ?_;refine Fp (l':=[⟨_,_,_,_,_,_⟩,⟨_,_,_,_,_,_⟩,⟨_,_,_,_,_,_⟩,⟨_,_,_,_,_,_⟩,⟨_,_,_,_,_,_⟩,⟨_,_,_,_,_,_⟩,⟨_,_,_,_,_,_⟩,⟨_,_,_,_,_,_⟩,⟨_,_,_,_,_,_⟩,⟨_,_,_,_,_,_⟩,⟨_,_,_,_,_,_⟩,⟨_,_,_,_,_,_⟩,⟨_,_,_,_,_,_⟩,⟨_,_,_,_,_,_⟩,⟨_,_,_,_,_,_⟩,⟨_,_,_,_,_,_⟩,⟨_,_,_,_,_,_⟩,⟨_,_,_,_,_,_⟩,⟨_,_,_,_,_,_⟩,⟨_,_,_,_,_,_⟩,⟨_,_,_,_,_,_⟩,⟨_,_,_,_,_,_⟩,⟨_,_,_,_,_,_⟩,⟨_,_,_,_,_,_⟩,⟨_,_,_,_,_,_⟩,⟨_,_,_,_,_,_⟩,⟨_,_,_,_,_,_⟩,⟨_,_,_,_,_,_⟩]) [3000000] [0,1,2,3,5,6,7,8,10,11,12,13,15,16,17,18,4,9,14,19,20,21,22,23,24,25,26,27] mixed (Vg [0,1,0,4,15,0,32,0,128,511,0,1024,0,4096,16383,0,32768,0,131072,524287,0,0,0,0,16777215,33554431,67108863,134217727] (by kernel_rfl)) rfl ?_;refine A1 ?_;refine L4 0 0 ?_;refine A1 ?_;refine L4 1 0 ?_;refine A1 ?_;refine L4 0 4 ?_;refine A1 ?_;refine L4 1 4 ?_;refine A1 ?_;refine L4 0 8 ?_;refine A1 ?_;refine L4 1 8 ?_;refine A1 ?_;refine L4 0 12 ?_;refine A1 ?_;refine L4 1 12 ?_;refine Pc (kL f.x0 g.x0) ?_;refine Pc (kL f.x1 g.x1) ?_;refine Pc (kL f.y0 g.y0) ?_;refine Pc (kL f.y1 g.y1) ?_;refine Al 4 oM (fun g3=>?_);refine Al 4 oM (fun g4=>?_);refine Al 4 oM (fun g5=>?_);refine Al 4 oM (fun g6=>?_);refine Ss 3 ?_;refine Ss 4 ?_;refine Ss 5 ?_;refine Ss 6 ?_;refine A4 ?_;refine Pc (iP 2 1) ?_;refine aQ 30 (Q 2) rfl (congrArg Q qj2) ?_;refine Al 4 oM (fun g7=>?_);refine Ss 7 ?_;refine A3 ?_;refine Dp [] [0,1,3,4,7,8,9,11,12,16,17,19,20,2,5,6,10,13,14,15,18,21,22,23,24] ?_ (hc:=(nV [0,0,3,0,0,31,63,0,0,0,895,0,0,8063,16255,32767,0,0,262143,0,0,2097151,4194303,8388607,16777215] (by kernel_rfl)));refine L4 3 0 ?_;refine L4 3 0 ?_;refine L4 5 0 ?_;refine L4 5 0 ?_;refine L4 7 0 ?_;refine L4 3 0 ?_;refine L4 4 0 ?_;refine L4 5 0 ?_;refine L4 6 0 ?_;refine L4 4 0 ?_;refine L4 4 0 ?_;refine L4 6 0 ?_;refine L4 6 0 ?_;refine Pc (dF (f.x0-g.x0) (f.x0-g.x0)) ?_;refine Pc (dF (f.y0-g.y0) (f.y0-g.y0)) ?_;refine Pc (gZ ((f.x0-g.x0)*(f.x0-g.x0)) ((f.y0-g.y0)*(f.y0-g.y0))) ?_;refine Pc (dF (f.x0-g.x0) (f.x1-g.x1)) ?_;refine Pc (dF (f.y0-g.y0) (f.y1-g.y1)) ?_;refine Pc (gZ ((f.x0-g.x0)*(f.x1-g.x1)) ((f.y0-g.y0)*(f.y1-g.y1))) ?_;refine Pc (dF 2 ((f.x0-g.x0)*(f.x1-g.x1)+(f.y0-g.y0)*(f.y1-g.y1))) ?_;refine Pc (dF (f.x1-g.x1) (f.x1-g.x1)) ?_;refine Pc (dF (f.y1-g.y1) (f.y1-g.y1)) ?_;refine Pc (gZ ((f.x1-g.x1)*(f.x1-g.x1)) ((f.y1-g.y1)*(f.y1-g.y1))) ?_;refine(Bu [(0,_),(1,_),(2,_)]) (OH) ?_;refine Ss 2 ?_;refine A3 ?_;refine Jm 2 ?_;exact rfl
def uI(l:List PU)(lb:Option Nat)(lN lc:Nat)(hlc:l.length<=lc:=by omega)(hln:l.length<=1000:=by omega):bW Tryz.prog 91 [⟨lb,100,ah aJ l,lN,false⟩] [az lb 0 l.length lc] (SR ((id) l).length) SR.v (fun z=>[⟨z.b,201,ah aJ ((id) l),z.n,true⟩]):=by
 refine MI 22 Tryz.func91 fun w hL0=>?_;refine A19 ?_;refine El (ι:={z:Nat×List PU×Option Nat×Nat×Nat // z.1<=l.length∧z.2.1=(id) (l.take z.1)∧z.2.1.length<=z.2.2.2.2∧z.2.2.2.2*36<=z.2.2.2.1}) (fun⟨⟨i,o,ob,oN,oc⟩,hi,hI,h3,h4⟩=>([(3,az ob 0 o.length oc),(6,az lb 0 l.length lc),(7,aZ (l.length)),(8,aZ i)],[⟨lb,100,ah aJ l,lN,false⟩,⟨ob,201,ah aJ o,oN,true⟩],l.length-i)) ⟨⟨0,[],none,0,0⟩,Nat.zero_le _,rfl,Nat.le_refl _,by simp⟩ ?_ (hL:=(ak [some 0,none] ⟨pR,⟨rfl,rfl,rfl⟩,trivial⟩ rfl rfl));rintro⟨⟨i,o,ob,oN,oc⟩,hi,hI,h3,h4⟩;(try dsimp only);replace hi:i<=l.length:=hi;replace hI:o=(id) (l.take i):=hI;replace h3:o.length<=oc:=h3;replace h4:oc*36<=oN:=h4
 have hol:o.length<=100000:=(by rw[hI];simp;omega);refine A6 ?_;refine Cd ?_ ?_<;>intro haQ
 ·have hlt:i<l.length:=(by have:=of_decide_eq_true haQ;omega);obtain⟨x,hx⟩:∃x,l[i]? =some x:=⟨l[i],List.getElem?_eq_getElem hlt⟩;refine eF 0 rfl (aB.ne (by decide) (by omega)) (fun hbs=>?_);obtain⟨gl,hgl⟩:=Option.isSome_iff_exists.1 hbs;replace hgl:lb=some gl:=hgl;subst hgl;refine A6 ?_;refine ai 0 ((i)*36) QA vC rfl rfl rfl rfl rfl (by omega) (by omega) (aB.ne (by decide) (by omega)) (by show 0+Int.toNat _*36=_;omega) ?_;refine aI (v:=UG x) 0 ((i)*36) _ rfl rfl rfl rfl vC (aB.sub hx 0 36 (by decide)) rfl (by decide) rfl ?_;refine Al 36 qln (fun g0=>?_);refine Ss 2 ?_;refine A5 ?_;refine xZ 2 0 ?_;refine A1 ?_;refine X3 2 20 ?_;refine(Bu [(0,_),(1,_)]) (Ed) ?_;refine(Bl 36 [(0,_)]) (qE) (fun g1=>?_);refine(Qa (s:=36) (len:=o.length) (n2:=1) 1 3 (fun r=>[_,⟨some r.g,201,ah aJ o++aJ (x),r.n,true⟩,_,_]) kU zI) (aB.length o) h3 h4 (aB.one (x)) (fun r=>?_);refine A5 ?_;refine dh ?_;exact Nl ⟨⟨i+1,o++[x],some r.g,r.n,r.cap⟩,hlt,by show o++[x]=l.take (i+1);rw[hI];exact dZ hx,by rw[List.length_append];exact r.h,r.hn⟩ (hμ:=(by show l.length-(i+1)<l.length-i;omega)) (ht:=⟨(aG rfl (by rw[List.length_append];rfl)),rfl,rfl,rfl,trivial⟩) (hL:=(ak [some 0,some 1] ⟨pR,⟨_,rfl,aK (by rw[dK])⟩,trivial⟩ rfl rfl))
 ·have hge:i=l.length:=(by have:=of_decide_eq_false haQ;omega);subst hge;obtain rfl:o=(id) l:=by rw[hI,List.take_length]
  refine lw ?_;refine aF rfl (aj rfl) (fun w hL=>⟨⟨ob,oN,oc,h3⟩,?_,hL.pk [some 1]⟩);exact rfl
def eX(x y:Rl)(hx:gz x<=50000:=by omega)(hy:gz y<=50000:=by omega):aH Tryz.prog 20 #[RV x,RV y] (.int .i64 (bK x y)):=by
 have x1:=Nat.le_trans (rD x) hx;have x2:=Nat.le_trans (xO x) hx;have y1:=Nat.le_trans (rD y) hy;have y2:=Nat.le_trans (xO y) hy;have l1:=bU x.p y.p;have hcm:=qeI x y;refine nG 26 Tryz.func20 fun w=>?_;refine A2 ?_;refine Bp 9 (fun g0=>?_);refine Bp 9 (fun g1=>?_);refine A4 ?_;refine Dp [] [0,1,2,3,5,7,8,9,11,12,4,6,10,13,14] ?_;refine A1 ?_;refine L4 0 0 ?_;refine A1 ?_;refine L4 1 0 ?_;refine L9 0 0 ?_;refine A1 ?_;refine L4 0 4 ?_;refine L9 1 0 ?_;refine A1 ?_;refine L4 1 4 ?_;refine Pc (kL x.p y.p) ?_;refine Pc (EP x) ?_;refine Pc (EP y) ?_;refine Pc (Lr (x.p-y.p) (mF x) x.r (mF y) y.r (qbH x) (qbH y)) ?_;refine lw ?_;refine Cd ?_ ?_<;>intro haQ
 ·refine A8 ?_;refine E0 ?_;rw[<-hcm,qba,if_pos (of_decide_eq_true haQ)]
 ·refine A7 ?_;refine Cd ?_ ?_<;>intro hbQ
  ·refine A8 ?_;refine E0 ?_;rw[<-hcm,qba,if_neg (of_decide_eq_false haQ),if_pos (of_decide_eq_true hbQ)]
  ·refine A9 ?_;refine E0 ?_;rw[<-hcm,qba,if_neg (of_decide_eq_false haQ),if_neg (of_decide_eq_false hbQ)]
def UT(i:Iv)(t:Rl)(hi:jB i<=50000:=by omega)(ht:gz t<=50000:=by omega):aH Tryz.prog 52 #[kG i,RV t] (.bool (UO i t)):=by
 have i1:=Nat.le_trans (jI i) hi;have i2:=Nat.le_trans (jJ i) hi;refine nG 39 Tryz.func52 fun w=>?_;refine A2 ?_;refine Bp 20 (fun g0=>?_);refine Bp 9 (fun g1=>?_);refine A4 ?_;refine Dp [] [0,1,2,4,5,6,3,7,8,9] ?_;refine A1 ?_;refine L9 0 0 ?_;refine L9 1 0 ?_;refine L9 1 0 ?_;refine A1 ?_;refine L9 0 9 ?_;refine Pc (eX i.f t (by omega) ht) ?_;refine Pc (eX t i.t ht) ?_;refine A9 ?_;refine Rs 17 ?_ ?_<;>intro haQ
 ·refine lw ?_;refine Rs 29 ?_ ?_<;>intro hbQ
  ·refine D5 ?_;exact rX
  ·refine A3 ?_;refine Rs 32 ?_ ?_<;>intro hcQ
   ·refine kN ?_;exact rX
   ·refine kN ?_;exact rX
 ·refine A3 ?_;refine Rs 20 ?_ ?_<;>intro hbQ
  ·refine A6 ?_;refine Rs 26 ?_ ?_<;>intro hcQ
   ·refine A3 ?_;refine Rs 29 ?_ ?_<;>intro hdQ
    ·refine D5 ?_;exact rX
    ·refine A3 ?_;refine Rs 32 ?_ ?_<;>intro heQ
     ·refine kN ?_;exact rX
     ·refine kN ?_;exact rX
   ·refine KT ?_;exact rX
  ·refine A22 ?_;exact rX
end Go.Proofs.YtaffcpfhedadhaaGreatDoor
