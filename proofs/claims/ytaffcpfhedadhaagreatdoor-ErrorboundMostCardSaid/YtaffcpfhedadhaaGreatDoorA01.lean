/-
  Part 1 (chapter 32): lemmas, walks. Each theorem states its own conditions.
-/
set_option linter.all false
set_option maxRecDepth 20000
set_option maxHeartbeats 20000000
section
variable{P Q:Prop}{T:Type}{R:T->Prop}
def kN(h:P:=by grind):=h
def qom(h:P:=by rcases h1 with h|h;rw[hp] at h;cases h;exact h):=h
def ax(h:P:=by decide):=h
def bI(h:P:=by simp):=h
def ae(h:P:=by omega):=h
end
namespace Go.Via
def nn(R u v:Rat):Prop:=(0<=u∧v*v*R<=u*u)∨(0<=v∧u*u<=v*v*R)
def qon(x:Rat):0<=x*x:=by
 by_cases h:0<=x
 ·exact Rat.mul_nonneg h h
 ·have h1:0<= -x:=kN
  have:=Rat.mul_nonneg h1 h1;have e: -x* -x=x*x:=kN
  rwa [e] at this
end Go.Via
namespace Go.Via
section
variable{α:Type}{κ:α->Int}
def iE(g:α->Bool):Option α->List α->List (α×α)
 |_,[]=>[]
 |none,c::cs=>if g c=true then iE g (some c) cs else iE g none cs
 |some f,c::cs=>if g c=true then iE g (some f) cs else(f,c)::iE g none cs
theorem oW{g h:α->Bool}:∀{C:List α} {st:Option α},(∀c∈C,g c=h c)->iE g st C=iE h st C
 |[],none,_=>rfl
 |[],some _,_=>rfl
 |c::cs,none,H=>by
  unfold iE;rw[H c (List.mem_cons_self ..),oW (fun x hx=>H x (List.mem_cons_of_mem _ hx)),oW (C:=cs) (st:=none) (fun x hx=>H x (List.mem_cons_of_mem _ hx))]
 |c::cs,some f,H=>by
  unfold iE;rw[H c (List.mem_cons_self ..),oW (fun x hx=>H x (List.mem_cons_of_mem _ hx)),oW (C:=cs) (st:=none) (fun x hx=>H x (List.mem_cons_of_mem _ hx))]
def Chk(g:α->Bool)(p:α->Bool):Bool->List α->Prop
 |_,[]=>True
 |s,c::cs=>(p c=true∨g c=s)∧Chk g p (g c) cs
theorem pq{g p:α->Bool}:∀{C:List α} {st:Option α},Chk g p st.isSome C->iE g st C=iE g st (C.filter p)
 |[],none,_=>rfl
 |[],some _,_=>rfl
 |c::cs,none,H=>by
  obtain⟨h1,h2⟩:=H;cases hp:p c
  ·rw[List.filter_cons_of_neg (by rw[hp];decide)];have h3:g c=false:=qom
   rw[h3] at h2;unfold iE;rw[h3,if_neg ax,pq (st:=none) h2];cases cs.filter p<;>rfl
  ·rw[List.filter_cons_of_pos hp];unfold iE;cases hg:g c
   ·rw[hg] at h2;rw[if_neg ax,if_neg ax,pq (st:=none) h2]
   ·rw[hg] at h2;rw[if_pos rfl,if_pos rfl,pq (st:=some c) h2]
 |c::cs,some f,H=>by
  obtain⟨h1,h2⟩:=H;cases hp:p c
  ·rw[List.filter_cons_of_neg (by rw[hp];decide)];have h3:g c=true:=qom
   rw[h3] at h2;unfold iE;rw[h3,if_pos rfl,pq (st:=some f) h2];cases cs.filter p<;>rfl
  ·rw[List.filter_cons_of_pos hp];unfold iE;cases hg:g c
   ·rw[hg] at h2;rw[if_neg ax,if_neg ax,pq (st:=none) h2]
   ·rw[hg] at h2;rw[if_pos rfl,if_pos rfl,pq (st:=some f) h2]
def yA:∀{C D:List α},C.Pairwise (fun a b=>κ a<κ b)->D.Pairwise (fun a b=>κ a<κ b)->(∀x,x∈C↔x∈D)->C=D
 |[],[],_,_,_=>rfl
 |[],d::D,_,_,H=>absurd ((H d).2 (List.mem_cons_self ..)) bI
 |c::C,[],_,_,H=>absurd ((H c).1 (List.mem_cons_self ..)) bI
 |c::C,d::D,h1,h2,H=>by
  obtain⟨a1,a2⟩:=List.pairwise_cons.1 h1;obtain⟨b1,b2⟩:=List.pairwise_cons.1 h2;have e:c=d:=by
   have m1:=(H c).1 (List.mem_cons_self ..);have m2:=(H d).2 (List.mem_cons_self ..);rcases List.mem_cons.1 m1 with h|h
   ·exact h
   ·rcases List.mem_cons.1 m2 with h'|h'
    ·exact h'.symm
    ·have:=a1 d h';have:=b1 c h;omega
  subst e;refine congrArg (c:: ·) (yA a2 b2 fun x=>?_)
  constructor
  ·intro hx;rcases List.mem_cons.1 ((H x).1 (List.mem_cons_of_mem _ hx)) with h|h
   ·subst h;have:=a1 x hx;omega
   ·exact h
  ·intro hx;rcases List.mem_cons.1 ((H x).2 (List.mem_cons_of_mem _ hx)) with h|h
   ·subst h;have:=b1 x hx;omega
   ·exact h
def vV(κ:α->Int):List α->List α
 |[]=>[]
 |[x]=>[x]
 |x::y::l=>if κ x=κ y then vV κ (y::l) else x::vV κ (y::l)
def xJ:∀{l:List α} {x:α},x∈vV κ l->x∈l
 |[],_,h=>h
 |[_],_,h=>h
 |x::y::l,z,h=>by
  unfold vV at h
  split at h
  ·exact List.mem_cons_of_mem _ (xJ h)
  ·rcases List.mem_cons.1 h with h|h
   ·subst h;exact List.mem_cons_self ..
   ·exact List.mem_cons_of_mem _ (xJ h)
def Gz:∀{l:List α},l.Pairwise (fun a b=>κ a<=κ b)->(vV κ l).Pairwise (fun a b=>κ a<κ b)
 |[],_=>List.Pairwise.nil
 |[x],_=>List.pairwise_singleton ..
 |x::y::l,h=>by
  obtain⟨h1,h2⟩:=List.pairwise_cons.1 h;obtain⟨h3,_⟩:=List.pairwise_cons.1 h2;unfold vV
  split
  ·exact Gz h2
  ·rename_i hne
   refine List.pairwise_cons.2 ⟨fun z hz=>?_,Gz h2⟩;have hz':=xJ hz;have:=h1 y (List.mem_cons_self ..);rcases List.mem_cons.1 hz' with e|e
   ·subst e;omega
   ·have:=h3 z e;omega
def BJ:∀{l:List α} {x:α},(∀a∈l,∀b∈l,κ a=κ b->a=b)->x∈l->x∈vV κ l
 |[],_,_,h=>h
 |[_],_,_,h=>h
 |x::y::l,z,H,h=>by
  have H':∀a∈y::l,∀b∈y::l,κ a=κ b->a=b:=fun a ha b hb=>H a (List.mem_cons_of_mem _ ha) b (List.mem_cons_of_mem _ hb)
  unfold vV
  split
  ·rename_i he
   rcases List.mem_cons.1 h with e|e
   ·subst e;have:=H z (List.mem_cons_self ..) y (List.mem_cons_of_mem _ (List.mem_cons_self ..)) he;subst this;exact BJ H' (List.mem_cons_self ..)
   ·exact BJ H' e
  ·rcases List.mem_cons.1 h with e|e
   ·subst e;exact List.mem_cons_self ..
   ·exact List.mem_cons_of_mem _ (BJ H' e)
def qj(κ:α->Int)(c:Int):List (α×Int×Int)->Int
 |[]=>0
 |e::l=>(if κ e.1<=c then e.2.1 else 0)+qj κ c l
def ql(κ:α->Int)(c:Int):List (α×Int×Int)->Int
 |[]=>0
 |e::l=>(if κ e.1<=c then e.2.2 else 0)+ql κ c l
def NI(κ:α->Int)(keep:Bool->Bool->Bool):List (α×Int×Int)->Int->Int->Option α->List (α×α)
 |[],_,_,_=>[]
 |[x],m,n,st=>
  match st,keep (decide (0<m+x.2.1)) (decide (0<n+x.2.2)) with
  |some f,false=>[(f,x.1)]
  |_,_=>[]
 |x::y::l,m,n,st=>
  if κ x.1=κ y.1 then NI κ keep (y::l) (m+x.2.1) (n+x.2.2) st else
  match st,keep (decide (0<m+x.2.1)) (decide (0<n+x.2.2)) with
  |none,true=>NI κ keep (y::l) (m+x.2.1) (n+x.2.2) (some x.1)
  |some f,false=>(f,x.1)::NI κ keep (y::l) (m+x.2.1) (n+x.2.2) none
  |st,_=>NI κ keep (y::l) (m+x.2.1) (n+x.2.2) st
def Og{c:Int}:∀{l:List (α×Int×Int)},(∀e∈l,c<κ e.1)->qj κ c l=0∧ql κ c l=0
 |[],_=>⟨rfl,rfl⟩
 |e::l,h=>by
  have h1:=h e (List.mem_cons_self ..);obtain⟨a,b⟩:=Og (l:=l) fun x hx=>h x (List.mem_cons_of_mem _ hx)
  unfold qj ql;rw[if_neg ae,if_neg ae,a,b];exact⟨rfl,rfl⟩
theorem SK{keep:Bool->Bool->Bool}:∀{l:List (α×Int×Int)} {m n:Int} {st:Option α},l.Pairwise (fun a b=>κ a.1<=κ b.1)->
 NI κ keep l m n st=iE (fun c=>keep (decide (0<m+qj κ (κ c) l)) (decide (0<n+ql κ (κ c) l))) st (vV κ (l.map (·.1)))
 |[],m,n,none,_=>rfl
 |[],m,n,some _,_=>rfl
 |[x],m,n,st,_=>by
  unfold NI;show _=iE _ st [x.1];have e1:qj κ (κ x.1) [x]=x.2.1:=by simp[qj]
  have e2:ql κ (κ x.1) [x]=x.2.2:=(by simp[ql]);cases st
  ·unfold iE;rw[e1,e2];cases keep (decide (0<m+x.2.1)) (decide (0<n+x.2.2))<;>rfl
  ·unfold iE;rw[e1,e2];cases keep (decide (0<m+x.2.1)) (decide (0<n+x.2.2))<;>rfl
 |x::y::l,m,n,st,h=>by
  obtain⟨h1,h2⟩:=List.pairwise_cons.1 h;have hxy:=h1 y (List.mem_cons_self ..);have G:∀c,κ x.1<=κ c->keep (decide (0<m+qj κ (κ c) (x::y::l))) (decide (0<n+ql κ (κ c) (x::y::l)))=keep (decide (0<m+x.2.1+qj κ (κ c) (y::l))) (decide (0<n+x.2.2+ql κ (κ c) (y::l))):=fun c hc=>by
   rw[qj,ql,if_pos hc,if_pos hc,<-Int.add_assoc,<-Int.add_assoc]
  have hl:∀c∈vV κ (y.1::l.map (·.1)),κ x.1<=κ c:=fun c hc=>by
   obtain⟨e,he,rfl⟩:=List.mem_map.1 (show c∈(y::l).map (·.1) from xJ hc);exact h1 e he
  have ih:=fun m n st=>SK (keep:=keep) (m:=m) (n:=n) (st:=st) h2
  unfold NI;show _=iE _ st (vV κ (x.1::y.1::l.map (·.1)));unfold vV
  by_cases he:κ x.1=κ y.1
  ·rw[if_pos he,if_pos he,ih];exact oW fun c hc=>(G c (hl c hc)).symm
  ·rw[if_neg he,if_neg he];have hz:=Og (κ:=κ) (c:=κ x.1) (l:=y::l) (fun e hel=>by
 rcases List.mem_cons.1 hel with e'|e'
 ·subst e';omega
 ·have:=(List.pairwise_cons.1 h2).1 e e';omega)
   have ex:keep (decide (0<m+qj κ (κ x.1) (x::y::l))) (decide (0<n+ql κ (κ x.1) (x::y::l)))=keep (decide (0<m+x.2.1)) (decide (0<n+x.2.2)):=by
    rw[G x.1 (Int.le_refl _),hz.1,hz.2,Int.add_zero,Int.add_zero]
   have ec:=fun st=>oW (st:=st) (C:=vV κ (y.1::l.map (fun e=>e.1))) fun c hc=>G c (hl c hc)
   have ih':=fun st=>(ih (m+x.2.1) (n+x.2.2) st).trans (ec st).symm
   cases st
   ·unfold iE;rw[ex];cases keep (decide (0<m+x.2.1)) (decide (0<n+x.2.2))
    ·exact ih' none
    ·exact ih' (some x.1)
   ·unfold iE;rw[ex];cases keep (decide (0<m+x.2.1)) (decide (0<n+x.2.2))
    ·exact congrArg _ (ih' none)
    ·exact ih' (some _)
end
end Go.Via
