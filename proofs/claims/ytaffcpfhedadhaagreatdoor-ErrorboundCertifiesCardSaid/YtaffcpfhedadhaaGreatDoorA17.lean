/-
  Part 17 (chapter 32): lemmas, walks. Each theorem states its own conditions.
-/
import Derived.Test.YtaffcpfhedadhaaGreatDoorA10
import Derived.Test.YtaffcpfhedadhaaGreatDoorA16
set_option linter.all false
set_option maxRecDepth 20000
set_option maxHeartbeats 20000000
namespace Go.Via
open Go
def Rn(ρ:Rl->Int)(x:PU):Prop:=(x.i.f=x.i.t∧x.i.fo=false∧x.i.tp=false)∨(ρ x.i.f<ρ x.i.t∧x.i.fo=true∧x.i.tp=true)
def qa5{ρ:Rl->Int}{x:PU}(h:Rn ρ x):aT ρ x.i.b<aT ρ x.i.e:=by
 unfold aT Iv.b Iv.e;rcases h with⟨h1,h2,h3⟩|⟨h1,h2,h3⟩
 ·rw[h1,h2,h3];simp;omega
 ·rw[h2,h3];simp;omega
def JK{S:Rl->Prop}{ρ:Rl->Int}(T:fZ S ρ):∀{xs:List PU} {out:List PU} {prev:Option PU} {lo:Int},pJ ρ out->Ends S out->(∀u∈out,aT ρ u.i.e<=lo)->pJ ρ xs->Ends S xs->(∀x∈xs,Rn ρ x)->(∀x∈xs,lo<=aT ρ x.i.b)->
 pJ ρ (uo prev out xs)∧Ends S (uo prev out xs)
 |[],_,_,_,h1,h2,_,_,_,_,_=>⟨h1,h2⟩
 |x::xs,out,prev,lo,h1,h2,h3,h4,h5,h6,h7=>by
  have hx:=h5 x (List.mem_cons_self ..);have hf:=h6 x (List.mem_cons_self ..);obtain⟨a,b,c⟩:=Yv T (prev:=prev) (next:=xs.head?) h1 h2 hx (qa5 hf) h3 (h7 x (List.mem_cons_self ..)) hf;obtain⟨p1,p2⟩:=List.pairwise_cons.1 h4.1;unfold uo;exact JK T a b c ⟨p2,fun y hy=>h4.2 y (List.mem_cons_of_mem _ hy)⟩ (fun y hy=>h5 y (List.mem_cons_of_mem _ hy)) (fun y hy=>h6 y (List.mem_cons_of_mem _ hy)) fun y hy=>p1 y hy
def Ro{S:Rl->Prop}{ρ:Rl->Int}(T:fZ S ρ){u:PU}(hu:S u.i.f∧S u.i.t)(h:aT ρ u.i.b<aT ρ u.i.e):
 pJ ρ (ig u)∧Ends S (ig u)∧(∀x∈ig u,Rn ρ x)∧(∀x∈ig u,aT ρ u.i.b<=aT ρ x.i.b∧aT ρ x.i.e<=aT ρ u.i.e):=by
 obtain⟨⟨f,t,fo,tp⟩,g⟩:=u;dsimp only at hu
 by_cases hi:f=t
 ·subst hi;have:fo=false∧tp=false:=by unfold aT Iv.b Iv.e at h;cases fo<;>cases tp<;>simp at h ⊢ <;>omega
  obtain⟨e1,e2⟩:=this;subst e1;subst e2;have e:ig ⟨⟨f,f,false,false⟩,g⟩=[⟨⟨f,f,false,false⟩,g⟩]:=by simp[ig,dY]
  rw[e];refine⟨⟨List.pairwise_singleton ..,fun x hx=>?_⟩,fun x hx=>?_,fun x hx=>?_,fun x hx=>?_⟩<;>rw[List.mem_singleton] at hx<;>subst hx
  ·exact h
  ·exact⟨hu.1,hu.1⟩
  ·exact .inl ⟨rfl,rfl,rfl⟩
  ·exact⟨Int.le_refl _,Int.le_refl _⟩
 ·have hne:ρ f≠ρ t:=fun e=>hi (T.inj hu.1 hu.2 e)
  have hlt:ρ f<ρ t:=by
   have k1:=zV ρ (Iv.b ⟨f,t,fo,tp⟩);have k2:=zV ρ (Iv.e ⟨f,t,fo,tp⟩);have e1:(Iv.b ⟨f,t,fo,tp⟩).1=f:=rfl;have e2:(Iv.e ⟨f,t,fo,tp⟩).1=t:=rfl;rw[e1] at k1;rw[e2] at k2;dsimp only at h;omega
  have e:ig ⟨⟨f,t,fo,tp⟩,g⟩=(if fo=true then[] else[⟨⟨f,f,false,false⟩,g⟩])++(⟨⟨f,t,true,true⟩,g⟩::(if tp=true then[] else[⟨⟨t,t,false,false⟩,g⟩])):=(by simp[ig,dY,hi]);rw[e]
  have F1:∀x:Rl,aT ρ (x,true)=2*ρ x+1:=fun x=>by unfold aT;simp
  have F0:∀x:Rl,aT ρ (x,false)=2*ρ x:=fun x=>by unfold aT;simp
  cases fo<;>cases tp<;>simp[pJ,Ends,Rn,Iv.b,Iv.e,F1,F0,hu,hlt]<;>omega
def JL{S:Rl->Prop}{ρ:Rl->Int}(T:fZ S ρ):∀{l:List PU},pJ ρ l->Ends S l->pJ ρ (aA l)∧Ends S (aA l)∧(∀x∈aA l,Rn ρ x)∧∀x∈aA l,∃u∈l,aT ρ u.i.b<=aT ρ x.i.b∧aT ρ x.i.e<=aT ρ u.i.e
 |[],_,_=>⟨⟨List.Pairwise.nil,by simp[aA]⟩,by simp[aA,Ends],by simp[aA],by simp[aA]⟩
 |u::l,h,he=>by
  obtain⟨p1,p2⟩:=List.pairwise_cons.1 h.1;obtain⟨a1,a2,a3,a4⟩:=Ro T (he u (List.mem_cons_self ..)) (h.2 u (List.mem_cons_self ..));obtain⟨b1,b2,b3,b4⟩:=JL T (l:=l) ⟨p2,fun y hy=>h.2 y (List.mem_cons_of_mem _ hy)⟩ fun y hy=>he y (List.mem_cons_of_mem _ hy)
  have e:aA (u::l)=ig u++aA l:=rfl;rw[e];refine⟨⟨List.pairwise_append.2 ⟨a1.1,b1.1,fun x hx y hy=>?_⟩,fun x hx=>?_⟩,fun x hx=>?_,fun x hx=>?_,fun x hx=>?_⟩
  ·obtain⟨v,hv,h1,h2⟩:=b4 y hy;have:=(a4 x hx).2;have:=p1 v hv;omega
  ·rcases List.mem_append.1 hx with h|h;exact a1.2 x h;exact b1.2 x h
  ·rcases List.mem_append.1 hx with h|h;exact a2 x h;exact b2 x h
  ·rcases List.mem_append.1 hx with h|h;exact a3 x h;exact b3 x h
  ·rcases List.mem_append.1 hx with h|h
   ·exact⟨u,List.mem_cons_self ..,a4 x h⟩
   ·obtain⟨v,hv,h1⟩:=b4 x h;exact⟨v,List.mem_cons_of_mem _ hv,h1⟩
def Nr{S:Rl->Prop}{ρ:Rl->Int}(T:fZ S ρ){l:List PU}(h:pJ ρ l)(he:Ends S l):pJ ρ (pU l)∧Ends S (pU l):=by
 obtain⟨b1,b2,b3,_⟩:=JL T h he;obtain⟨lo,hlo⟩:∃lo:Int,∀x∈aA l,lo<=aT ρ x.i.b:=by
  generalize aA l=C
  induction C with
  |nil=>exact⟨0,fun c hc=>absurd hc (by simp)⟩
  |cons c C ih=>
   obtain⟨lo,h⟩:=ih;refine⟨min lo (aT ρ c.i.b),fun x hx=>?_⟩
   rcases List.mem_cons.1 hx with e|e
   ·subst e;omega
   ·have:=h x e;omega
 exact JK T ⟨List.Pairwise.nil,by simp⟩ (by simp[Ends]) (by simp) b1 b2 b3 hlo
def Yw{P:Ln->Prop}{out:List PU}{prev next:Option PU}{x:PU}(h:∀u∈out,P u.f)(hx:P x.f)(hr:P (iU x.f x.i.f)):∀u∈jU out prev x next,P u.f:=by
 have app:∀v:PU,P v.f->∀u∈out++[v],P u.f:=fun v hv u hu=>by
  rcases List.mem_append.1 hu with e|e
  ·exact h u e
  ·rw[List.mem_singleton] at e;rw[e];exact hv
 have set:∀b v:PU,out.getLast? =some b->v.f=b.f->∀u∈iY out v,P u.f:=fun b v hb hv u hu=>by
  have hs:=oZ hb;rcases List.mem_append.1 hu with e|e
  ·exact h u (by rw[hs];exact List.mem_append_left _ e)
  ·rw[List.mem_singleton] at e;rw[e,hv];exact h b (by rw[hs];simp)
 unfold jU;cases hi:dY x.i<;>cases hb:sU out x.i.f with
 |none=>
  dsimp only
  first
  |exact app _ hx
  |cases next with
   |none=>exact app _ hr
   |some n=>dsimp only;split<;>first|exact h|exact app _ hr
 |some b=>
  have hl:=(xG hb).1;dsimp only
  split
  ·exact set b _ hl rfl
  ·first
   |exact app _ hx
   |cases next with
    |none=>exact app _ hr
    |some n=>dsimp only;split<;>first|exact h|exact app _ hr
def JM{P:Ln->Prop}:∀{xs:List PU} {out:List PU} {prev:Option PU},(∀u∈out,P u.f)->(∀x∈xs,P x.f∧P (iU x.f x.i.f))->∀u∈uo prev out xs,P u.f
 |[],_,_,h,_=>h
 |x::xs,out,prev,h,hx=>JM (xs:=xs) (Yw h (hx x (List.mem_cons_self ..)).1 (hx x (List.mem_cons_self ..)).2) fun y hy=>hx y (List.mem_cons_of_mem _ hy)
def Ns{P:Ln->Prop}{l:List PU}(h:∀u∈l,P u.f∧P (iU u.f u.i.f)∧P (iU u.f u.i.t)):∀u∈pU l,P u.f:=by
 refine JM (by simp) fun x hx=>?_
 obtain⟨u,hu,hxu⟩:=List.mem_flatMap.1 hx;have h1:=h u hu;unfold ig at hxu;rcases List.mem_append.1 hxu with e|e
 ·split at e
  ·simp at e
  ·rw[List.mem_singleton] at e;subst e;exact⟨h1.1,h1.2.1⟩
 ·split at e
  ·simp at e
  ·rcases List.mem_cons.1 e with e|e
   ·subst e;exact⟨h1.1,h1.2.1⟩
   ·split at e
    ·simp at e
    ·rw[List.mem_singleton] at e;subst e;exact⟨h1.1,h1.2.2⟩
def Yx{out:List PU}{prev next:Option PU}{x:PU}:(jU out prev x next).length<=out.length+1:=by
 have set:∀b v:PU,out.getLast? =some b->(iY out v).length<=out.length+1:=fun b v hb=>by
  unfold iY;rw[List.length_append,List.length_dropLast];simp
 unfold jU;cases hi:dY x.i<;>cases hb:sU out x.i.f with
 |none=>
  dsimp only
  first
  |(simp;done)
  |cases next with
   |none=>simp
   |some n=>dsimp only;split<;>simp
 |some b=>
  have hl:=(xG hb).1;dsimp only
  split
  ·exact set b _ hl
  ·first
   |(simp;done)
   |cases next with
    |none=>simp
    |some n=>dsimp only;split<;>simp
def JO:∀{xs:List PU} {out:List PU} {prev:Option PU},(uo prev out xs).length<=out.length+xs.length
 |[],_,_=>Nat.le_refl _
 |x::xs,out,prev=>by
  have:=JO (xs:=xs) (out:=jU out prev x xs.head?) (prev:=some x);have:=Yx (out:=out) (prev:=prev) (next:=xs.head?) (x:=x);unfold uo;rw[List.length_cons];omega
def Bq:∀{l:List PU},(aA l).length<=3*l.length
 |[]=>Nat.le_refl _
 |u::l=>by
  have h:(ig u).length<=3:=by
   unfold ig;rw[List.length_append]
   split<;>split<;>simp<;>split<;>simp
  have:=Bq (l:=l);have e:aA (u::l)=ig u++aA l:=rfl;rw[e,List.length_append,List.length_cons];omega
def Nu{l:List PU}:(pU l).length<=3*l.length:=by
 have:=JO (xs:=aA l) (out:=[]) (prev:=none);have:=Bq (l:=l);unfold pU;simp at*;omega
end Go.Via
namespace Go.Via
open Go
theorem ED{ρ:Rl->Int}{i:Iv}{k:Int}:memB ρ [i] k=(decide (aT ρ i.b<=k)&&decide (k<aT ρ i.e)):=by unfold memB;simp
theorem UD(i:Iv):G6 i.b i.e=i:=by unfold G6 Iv.b Iv.e;simp
def qa6{S:Rl->Prop}{ρ:Rl->Int}(T:fZ S ρ){a b:Iv}(ha:S a.f∧S a.t)(hb:S b.f∧S b.t):kD (fun x y=>x&&y) [a] [b]=(iT a b).toList:=by
 have hA:jO S [a]:=fun i hi=>by rw[List.mem_singleton] at hi;rw[hi];exact ha
 have hB:jO S [b]:=fun i hi=>by rw[List.mem_singleton] at hi;rw[hi];exact hb
 obtain⟨s1,_⟩:=um T (tC (mD hA hB));rw[C9 T rfl hA hB];have hin:=JJ T hA hB;have mb:=JH T ha.1 hb.1;have me:=JI T ha.2 hb.2;have hG:∀k,(memB ρ [a] k&&memB ρ [b] k)=(decide (aT ρ (fE a b).b<=k)&&decide (k<aT ρ (fE a b).e)):=fun k=>by
  rw[ED,ED,Bool.eq_iff_iff];simp only[Bool.and_eq_true,decide_eq_true_eq];rcases mb with⟨e1,_⟩|⟨e1,_⟩<;>rcases me with⟨e2,_⟩|⟨e2,_⟩<;>rw[e1,e2]<;>omega
 have hb1:(fE a b).b∈ni (dW (bM ([a]++[b]))):=by
  rcases mb with⟨e1,_⟩|⟨e1,_⟩<;>rw[e1]<;>refine hin _ ?_
  ·exact List.mem_append_left _ (fQ.2 ⟨a,by simp,.inl rfl⟩)
  ·exact List.mem_append_right _ (fQ.2 ⟨b,by simp,.inl rfl⟩)
 have hb2:(fE a b).e∈ni (dW (bM ([a]++[b]))):=by
  rcases me with⟨e1,_⟩|⟨e1,_⟩<;>rw[e1]<;>refine hin _ ?_
  ·exact List.mem_append_left _ (fQ.2 ⟨a,by simp,.inr rfl⟩)
  ·exact List.mem_append_right _ (fQ.2 ⟨b,by simp,.inr rfl⟩)
 have hok:=ul T (FX ha hb).1 (FX ha hb).2;unfold iT
 by_cases h:jP (fE a b)=true
 ·have hlt:=hok.1 h;rw[if_pos h];rw[qa4 T (G:=fun k=>memB ρ [a] k&&memB ρ [b] k) (B:=[(fE a b).b,(fE a b).e]) (D:=[(fE a b).b,(fE a b).e]) ?_ ?_ (sS s1) ?_ ?_ fun c hc=>hc]
  ·unfold iy;rw[hG,decide_eq_true (Int.le_refl _),decide_eq_true hlt];unfold iy;rw[hG,decide_eq_false (show¬aT ρ (fE a b).e<aT ρ (fE a b).e by omega),Bool.and_false];simp[iy,UD]
  ·intro k1 k2 hk hn;have n1:=hn _ (List.mem_cons_self ..);have n2:=hn (fE a b).e (by simp);rw[hG,hG,Bool.eq_iff_iff];simp only[Bool.and_eq_true,decide_eq_true_eq];omega
  ·intro k hk;have n1:=hk _ (List.mem_cons_self ..);rw[hG,decide_eq_false (by omega),Bool.false_and]
  ·exact List.pairwise_cons.2 ⟨fun c hc=>by rw[List.mem_singleton] at hc;rw[hc];exact hlt,List.pairwise_singleton ..⟩
  ·intro c hc;rcases List.mem_cons.1 hc with e|e
   ·rw[e];exact hb1
   ·rw[List.mem_singleton] at e;rw[e];exact hb2
 ·have hle:¬aT ρ (fE a b).b<aT ρ (fE a b).e:=fun hh=>h (hok.2 hh)
  rw[if_neg h];have hF:∀k,(memB ρ [a] k&&memB ρ [b] k)=false:=fun k=>by
   rw[hG];cases h1:decide (aT ρ (fE a b).b<=k)
   ·rfl
   ·have:=of_decide_eq_true h1;rw[decide_eq_false (by omega)];rfl
  have:∀C:List pO,iy (fun c=>memB ρ [a] (aT ρ c)&&memB ρ [b] (aT ρ c)) none C=[]:=fun C=>by
   induction C with
   |nil=>rfl
   |cons c C ih=>unfold iy;rw[hF,if_neg (by decide),ih]
  rw[this];rfl
def d2(f g:Ln):Qd:=⟨(f.x0-g.x0)*(f.x0-g.x0)+(f.y0-g.y0)*(f.y0-g.y0),2*((f.x0-g.x0)*(f.x1-g.x1)+(f.y0-g.y0)*(f.y1-g.y1)),(f.x1-g.x1)*(f.x1-g.x1)+(f.y1-g.y1)*(f.y1-g.y1)⟩
theorem qeD(f g:Ln):d2 f g=d2 g f:=by unfold d2;congr 1<;>grind
def Nv(f g:Ln)(t:Rat):0<=vT (d2 f g) t:=by
 have h1:=qjL ((f.x0-g.x0)+(f.x1-g.x1)*t);have h2:=qjL ((f.y0-g.y0)+(f.y1-g.y1)*t);have e:vT (d2 f g) t=((f.x0-g.x0)+(f.x1-g.x1)*t)*((f.x0-g.x0)+(f.x1-g.x1)*t)+((f.y0-g.y0)+(f.y1-g.y1)*t)*((f.y0-g.y0)+(f.y1-g.y1)*t):=by
  unfold vT d2;grind
 rw[e];grind
structure oL where
 i:Iv
 a:Rl
 b:Rl
deriving DecidableEq
def bg(x:Iv×Qd):oL:=⟨x.1,Nq x.2 x.1.f,Nq x.2 x.1.t⟩
def tH(x y:PU):Option (Iv×Qd):=(iT x.i y.i).map fun m=>(m,d2 x.f y.f)
def ay(a b:List PU):List (Iv×Qd):=ik tH (fun x y=>Ez x.i y.i) a b
def Rq{S:Rl->Prop}{ρ:Rl->Int}(T:fZ S ρ){x y:PU}(hx:S x.i.f∧S x.i.t)(hy:S y.i.f∧S y.i.t)(h:aT ρ x.i.e<=aT ρ y.i.b∨aT ρ y.i.e<=aT ρ x.i.b)(ox:aT ρ x.i.b<aT ρ x.i.e)(oy:aT ρ y.i.b<aT ρ y.i.e):tH x y=none:=by
 unfold tH;rw[Yu T hx hy h ox oy];rfl
theorem kY{S:Rl->Prop}{ρ:Rl->Int}(T:fZ S ρ){a b:List PU}(sa:pJ ρ a)(sb:pJ ρ b)(ea:Ends S a)(eb:Ends S b):ay a b=flatK tH a b:=by
 unfold ay;refine FW (fa:=fun x=>aT ρ x.i.b) (la:=fun x=>aT ρ x.i.e) (fb:=fun x=>aT ρ x.i.b) (lb:=fun x=>aT ρ x.i.e) (fun x hx y hy=>⟨Yt T (ea x hx).2 (eb y hy).2,fun h=>?_,fun h=>?_⟩) sa.1 sb.1
 ·exact Rq T (ea x hx) (eb y hy) (.inl h) (sa.2 x hx) (sb.2 y hy)
 ·exact Rq T (ea x hx) (eb y hy) (.inr h) (sa.2 x hx) (sb.2 y hy)
def uq{S:Rl->Prop}{ρ:Rl->Int}(T:fZ S ρ){x y:PU}{z:Iv×Qd}(hx:S x.i.f∧S x.i.t)(hy:S y.i.f∧S y.i.t)(h:tH x y=some z):
 z.1=fE x.i y.i∧z.2=d2 x.f y.f∧S z.1.f∧S z.1.t∧aT ρ z.1.b<aT ρ z.1.e∧aT ρ x.i.b<=aT ρ z.1.b∧aT ρ y.i.b<=aT ρ z.1.b∧aT ρ z.1.e<=aT ρ x.i.e∧aT ρ z.1.e<=aT ρ y.i.e:=by
 unfold tH iT at h
 by_cases hk:jP (fE x.i y.i)=true
 ·rw[if_pos hk] at h
  injection h with h
  subst h;have hS:=FX hx hy;have hlt:=(ul T hS.1 hS.2).1 hk;refine⟨rfl,rfl,hS.1,hS.2,hlt,?_⟩;dsimp only;rcases JH T hx.1 hy.1 with⟨e1,_⟩|⟨e1,_⟩<;>rcases JI T hx.2 hy.2 with⟨e2,_⟩|⟨e2,_⟩<;>rw[e1,e2]<;>omega
 ·rw[if_neg hk] at h;cases h
def xH{S:Rl->Prop}{ρ:Rl->Int}(T:fZ S ρ){b:List PU}(sb:pJ ρ b)(eb:Ends S b):∀{a:List PU},pJ ρ a->Ends S a->
 (flatK tH a b).Pairwise (fun p q=>aT ρ p.1.e<=aT ρ q.1.b)∧∀z∈flatK tH a b,∃x∈a,∃y∈b,tH x y=some z
 |[],_,_=>⟨List.Pairwise.nil,by simp[flatK]⟩
 |x::a,sa,ea=>by
  obtain⟨p1,p2⟩:=List.pairwise_cons.1 sa.1;have hx:=ea x (List.mem_cons_self ..);obtain⟨i1,i2⟩:=xH T sb eb (a:=a) ⟨p2,fun y hy=>sa.2 y (List.mem_cons_of_mem _ hy)⟩ fun y hy=>ea y (List.mem_cons_of_mem _ hy)
  have e:flatK tH (x::a) b=b.filterMap (tH x)++flatK tH a b:=(by unfold flatK;rw[List.flatMap_cons]);rw[e];have row:∀{c:List PU},c.Pairwise (fun x y=>aT ρ x.i.e<=aT ρ y.i.b)->Ends S c->(c.filterMap (tH x)).Pairwise (fun p q=>aT ρ p.1.e<=aT ρ q.1.b):=fun {c} hc hE=>by
   refine(List.pairwise_filterMap).2 (hc.imp_of_mem fun {u v} hu hv huv p hp q hq=>?_);have hp':=uq T hx (hE u hu) hp;have hq':=uq T hx (hE v hv) hq;omega
  refine⟨List.pairwise_append.2 ⟨row sb.1 eb,i1,fun p hp q hq=>?_⟩,fun z hz=>?_⟩
  ·obtain⟨y,hy,hpy⟩:=List.mem_filterMap.1 hp;obtain⟨x',hx',y',hy',hq'⟩:=i2 q hq;have h1:=uq T hx (eb y hy) hpy;have h2:=uq T (ea x' (List.mem_cons_of_mem _ hx')) (eb y' hy') hq';have:=p1 x' hx';omega
  ·rcases List.mem_append.1 hz with h|h
   ·obtain⟨y,hy,hpy⟩:=List.mem_filterMap.1 h;exact⟨x,List.mem_cons_self ..,y,hy,hpy⟩
   ·obtain⟨x',hx',y',hy',hq'⟩:=i2 z h;exact⟨x',List.mem_cons_of_mem _ hx',y',hy',hq'⟩
end Go.Via
namespace Go.Via
open Go
def gm(x y:Rl):Rl:=if 0<bK y x then y else x
def fD:List oL->Rl
 |[]=>rl 0
 |p::l=>(p::l).foldl (fun o x=>gm o (gm x.a x.b)) p.a
def vU(o:Rl)(x:oL):Rl:=gm (gm o x.a) x.b
def xI(l:List oL):Rl:=l.foldl vU (rl 0)
theorem qG(p q:Rat):gm (rl p) (rl q)=rl (if p<q then q else p):=by
 unfold gm;rw[O8];rcases xB q p with⟨c,e⟩|⟨c,e⟩|⟨c,e⟩<;>rw[e]
 ·rw[if_neg (by decide),if_neg (by grind)]
 ·rw[if_pos (by decide),if_pos c]
 ·rw[if_neg (by decide),if_neg (by grind)]
def Yy(l:List oL):Prop:=∀p∈l,∃u v:Rat,0<=u∧0<=v∧p.a=rl u∧p.b=rl v
def Rt(p q:Rat):Rat:=if p<q then q else p
def UE{l:List oL}(h:Yy l)(hne:l≠[]):fD l=xI l:=by
 have step1:∀(l:List oL) (q:Rat),Yy l->∃r,l.foldl (fun o x=>gm o (gm x.a x.b)) (rl q)=rl r∧l.foldl vU (rl q)=rl r:=by
  intro l
  induction l with
  |nil=>intro q _;exact⟨q,rfl,rfl⟩
  |cons p l ih=>
   intro q h;obtain⟨u,v,hu,hv,ea,eb⟩:=h p (List.mem_cons_self ..);obtain⟨r,h1,h2⟩:=ih (Rt (Rt q u) v) fun x hx=>h x (List.mem_cons_of_mem _ hx)
   refine⟨r,?_,?_⟩
   ·rw[List.foldl_cons,ea,eb,qG,qG,<-h1]
    congr 2
    unfold Rt;grind
   ·rw[List.foldl_cons,<-h2];unfold vU;rw[ea,eb,qG,qG]
    rfl
 cases l with
 |nil=>exact absurd rfl hne
 |cons p l=>
  obtain⟨u,v,hu,hv,ea,eb⟩:=h p (List.mem_cons_self ..);show(p::l).foldl (fun o x=>gm o (gm x.a x.b)) p.a=(p::l).foldl vU (rl 0);rw[List.foldl_cons,List.foldl_cons];have e1:gm p.a (gm p.a p.b)=rl (Rt u v):=by
   rw[ea,eb,qG,qG];congr 1;unfold Rt;grind
  have e2:vU (rl 0) p=rl (Rt u v):=by
   unfold vU;rw[ea,eb,qG,qG];congr 1;unfold Rt;grind
  rw[e1,e2];obtain⟨r,h1,h2⟩:=step1 l (Rt u v) fun x hx=>h x (List.mem_cons_of_mem _ hx)
  rw[h1,h2]
def qlR(x:Rl):Prop:=∃q,x=rl q
theorem Yz{S:Rl->Prop}{ρ:Rl->Int}(T:fZ S ρ){a b:Iv}(ha:S a.f∧S a.t)(hb:S b.f∧S b.t):fE a b=fE b a:=by
 have h1:=JH T ha.1 hb.1;have h2:=JH T hb.1 ha.1;have h3:=JI T ha.2 hb.2;have h4:=JI T hb.2 ha.2;have inj:∀{x y:pO},S x.1->S y.1->aT ρ x=aT ρ y->x=y:=fun hx hy h=>Wh T hx hy h
 have e1:(fE a b).b=(fE b a).b:=by
  rcases h1 with⟨e,k⟩|⟨e,k⟩<;>rcases h2 with⟨e',k'⟩|⟨e',k'⟩<;>rw[e,e']
  ·exact inj ha.1 hb.1 (by omega)
  ·exact inj hb.1 ha.1 (by omega)
 have e2:(fE a b).e=(fE b a).e:=by
  rcases h3 with⟨e,k⟩|⟨e,k⟩<;>rcases h4 with⟨e',k'⟩|⟨e',k'⟩<;>rw[e,e']
  ·exact inj ha.2 hb.2 (by omega)
  ·exact inj hb.2 ha.2 (by omega)
 rw[<-UD (fE a b),e1,e2,UD]
def UF{S:Rl->Prop}{ρ:Rl->Int}(T:fZ S ρ){a b:List PU}(sa:pJ ρ a)(sb:pJ ρ b)(ea:Ends S a)(eb:Ends S b):ay a b=ay b a:=by
 rw[kY T sa sb ea eb,kY T sb sa eb ea];obtain⟨a1,a2⟩:=xH T sb eb sa ea;obtain⟨b1,b2⟩:=xH T sa ea sb eb;have lt:∀{c d:List PU},Ends S c->Ends S d->(flatK tH c d).Pairwise (fun p q=>aT ρ p.1.e<=aT ρ q.1.b)->(∀z∈flatK tH c d,∃x∈c,∃y∈d,tH x y=some z)->(flatK tH c d).Pairwise (fun p q=>aT ρ p.1.b<aT ρ q.1.b):=fun {c d} hc hd h1 h2=>by
  refine h1.imp_of_mem fun {p q} hp hq hpq=>?_
  obtain⟨x,hx,y,hy,hm⟩:=h2 p hp;have:=uq T (hc x hx) (hd y hy) hm;omega
 refine yF (κ:=fun p:Iv×Qd=>aT ρ p.1.b) (lt ea eb a1 a2) (lt eb ea b1 b2) fun z=>?_
 have sw:∀{c d:List PU},Ends S c->Ends S d->(∀z∈flatK tH c d,∃x∈c,∃y∈d,tH x y=some z)->z∈flatK tH c d->z∈flatK tH d c:=fun {c d} hc hd h2 hz=>by
  obtain⟨x,hx,y,hy,hm⟩:=h2 z hz;refine List.mem_flatMap.2 ⟨y,hy,List.mem_filterMap.2 ⟨x,hx,?_⟩⟩;rw[<-hm];unfold tH iT;rw[Yz T (hd y hy) (hc x hx),qeD]
 exact⟨sw ea eb a2,sw eb ea b2⟩
end Go.Via
namespace Go.Via
open Go
structure B3 where
 i:Iv
 f:Ln
 g:Ln
def jX(x:Rl):List Value:=[.bool (decide (x.p.num<0)),.string (bH x.p.num.natAbs),.bool false,.string (dm x.p),.bool (decide (x.r.num<0)),.string (bH x.r.num.natAbs),.bool false,.string (dm x.r),.bool x.n]
def RV(x:Rl):Value:= .agg #[.bool (decide (x.p.num<0)),.string (bH x.p.num.natAbs),.bool false,.string (dm x.p),.bool (decide (x.r.num<0)),.string (bH x.r.num.natAbs),.bool false,.string (dm x.r),.bool x.n]
def bG(x:Iv):List Value:=[.bool (decide (x.f.p.num<0)),.string (bH x.f.p.num.natAbs),.bool false,.string (dm x.f.p),.bool (decide (x.f.r.num<0)),.string (bH x.f.r.num.natAbs),.bool false,.string (dm x.f.r),.bool x.f.n,.bool (decide (x.t.p.num<0)),.string (bH x.t.p.num.natAbs),.bool false,.string (dm x.t.p),.bool (decide (x.t.r.num<0)),.string (bH x.t.r.num.natAbs),.bool false,.string (dm x.t.r),.bool x.t.n,.bool x.fo,.bool x.tp]
def kG(x:Iv):Value:= .agg #[.bool (decide (x.f.p.num<0)),.string (bH x.f.p.num.natAbs),.bool false,.string (dm x.f.p),.bool (decide (x.f.r.num<0)),.string (bH x.f.r.num.natAbs),.bool false,.string (dm x.f.r),.bool x.f.n,.bool (decide (x.t.p.num<0)),.string (bH x.t.p.num.natAbs),.bool false,.string (dm x.t.p),.bool (decide (x.t.r.num<0)),.string (bH x.t.r.num.natAbs),.bool false,.string (dm x.t.r),.bool x.t.n,.bool x.fo,.bool x.tp]
def qeE(x:Qd):List Value:=[.bool (decide (x.c0.num<0)),.string (bH x.c0.num.natAbs),.bool false,.string (dm x.c0),.bool (decide (x.c1.num<0)),.string (bH x.c1.num.natAbs),.bool false,.string (dm x.c1),.bool (decide (x.c2.num<0)),.string (bH x.c2.num.natAbs),.bool false,.string (dm x.c2)]
def qH(x:Qd):Value:= .agg #[.bool (decide (x.c0.num<0)),.string (bH x.c0.num.natAbs),.bool false,.string (dm x.c0),.bool (decide (x.c1.num<0)),.string (bH x.c1.num.natAbs),.bool false,.string (dm x.c1),.bool (decide (x.c2.num<0)),.string (bH x.c2.num.natAbs),.bool false,.string (dm x.c2)]
def xh(x:Ln):Value:= .agg #[.bool (decide (x.x0.num<0)),.string (bH x.x0.num.natAbs),.bool false,.string (dm x.x0),.bool (decide (x.x1.num<0)),.string (bH x.x1.num.natAbs),.bool false,.string (dm x.x1),.bool (decide (x.y0.num<0)),.string (bH x.y0.num.natAbs),.bool false,.string (dm x.y0),.bool (decide (x.y1.num<0)),.string (bH x.y1.num.natAbs),.bool false,.string (dm x.y1)]
def aJ(x:PU):List Value:=[.bool (decide (x.i.f.p.num<0)),.string (bH x.i.f.p.num.natAbs),.bool false,.string (dm x.i.f.p),.bool (decide (x.i.f.r.num<0)),.string (bH x.i.f.r.num.natAbs),.bool false,.string (dm x.i.f.r),.bool x.i.f.n,.bool (decide (x.i.t.p.num<0)),.string (bH x.i.t.p.num.natAbs),.bool false,.string (dm x.i.t.p),.bool (decide (x.i.t.r.num<0)),.string (bH x.i.t.r.num.natAbs),.bool false,.string (dm x.i.t.r),.bool x.i.t.n,.bool x.i.fo,.bool x.i.tp,.bool (decide (x.f.x0.num<0)),.string (bH x.f.x0.num.natAbs),.bool false,.string (dm x.f.x0),.bool (decide (x.f.x1.num<0)),.string (bH x.f.x1.num.natAbs),.bool false,.string (dm x.f.x1),.bool (decide (x.f.y0.num<0)),.string (bH x.f.y0.num.natAbs),.bool false,.string (dm x.f.y0),.bool (decide (x.f.y1.num<0)),.string (bH x.f.y1.num.natAbs),.bool false,.string (dm x.f.y1)]
def UG(x:PU):Value:= .agg #[.bool (decide (x.i.f.p.num<0)),.string (bH x.i.f.p.num.natAbs),.bool false,.string (dm x.i.f.p),.bool (decide (x.i.f.r.num<0)),.string (bH x.i.f.r.num.natAbs),.bool false,.string (dm x.i.f.r),.bool x.i.f.n,.bool (decide (x.i.t.p.num<0)),.string (bH x.i.t.p.num.natAbs),.bool false,.string (dm x.i.t.p),.bool (decide (x.i.t.r.num<0)),.string (bH x.i.t.r.num.natAbs),.bool false,.string (dm x.i.t.r),.bool x.i.t.n,.bool x.i.fo,.bool x.i.tp,.bool (decide (x.f.x0.num<0)),.string (bH x.f.x0.num.natAbs),.bool false,.string (dm x.f.x0),.bool (decide (x.f.x1.num<0)),.string (bH x.f.x1.num.natAbs),.bool false,.string (dm x.f.x1),.bool (decide (x.f.y0.num<0)),.string (bH x.f.y0.num.natAbs),.bool false,.string (dm x.f.y0),.bool (decide (x.f.y1.num<0)),.string (bH x.f.y1.num.natAbs),.bool false,.string (dm x.f.y1)]
def aY(x:oL):List Value:=[.bool (decide (x.i.f.p.num<0)),.string (bH x.i.f.p.num.natAbs),.bool false,.string (dm x.i.f.p),.bool (decide (x.i.f.r.num<0)),.string (bH x.i.f.r.num.natAbs),.bool false,.string (dm x.i.f.r),.bool x.i.f.n,.bool (decide (x.i.t.p.num<0)),.string (bH x.i.t.p.num.natAbs),.bool false,.string (dm x.i.t.p),.bool (decide (x.i.t.r.num<0)),.string (bH x.i.t.r.num.natAbs),.bool false,.string (dm x.i.t.r),.bool x.i.t.n,.bool x.i.fo,.bool x.i.tp,.bool (decide (x.a.p.num<0)),.string (bH x.a.p.num.natAbs),.bool false,.string (dm x.a.p),.bool (decide (x.a.r.num<0)),.string (bH x.a.r.num.natAbs),.bool false,.string (dm x.a.r),.bool x.a.n,.bool (decide (x.b.p.num<0)),.string (bH x.b.p.num.natAbs),.bool false,.string (dm x.b.p),.bool (decide (x.b.r.num<0)),.string (bH x.b.r.num.natAbs),.bool false,.string (dm x.b.r),.bool x.b.n]
def JP(x:oL):Value:= .agg #[.bool (decide (x.i.f.p.num<0)),.string (bH x.i.f.p.num.natAbs),.bool false,.string (dm x.i.f.p),.bool (decide (x.i.f.r.num<0)),.string (bH x.i.f.r.num.natAbs),.bool false,.string (dm x.i.f.r),.bool x.i.f.n,.bool (decide (x.i.t.p.num<0)),.string (bH x.i.t.p.num.natAbs),.bool false,.string (dm x.i.t.p),.bool (decide (x.i.t.r.num<0)),.string (bH x.i.t.r.num.natAbs),.bool false,.string (dm x.i.t.r),.bool x.i.t.n,.bool x.i.fo,.bool x.i.tp,.bool (decide (x.a.p.num<0)),.string (bH x.a.p.num.natAbs),.bool false,.string (dm x.a.p),.bool (decide (x.a.r.num<0)),.string (bH x.a.r.num.natAbs),.bool false,.string (dm x.a.r),.bool x.a.n,.bool (decide (x.b.p.num<0)),.string (bH x.b.p.num.natAbs),.bool false,.string (dm x.b.p),.bool (decide (x.b.r.num<0)),.string (bH x.b.r.num.natAbs),.bool false,.string (dm x.b.r),.bool x.b.n]
def Df(x:Iv×Qd):List Value:=[.bool (decide (x.1.f.p.num<0)),.string (bH x.1.f.p.num.natAbs),.bool false,.string (dm x.1.f.p),.bool (decide (x.1.f.r.num<0)),.string (bH x.1.f.r.num.natAbs),.bool false,.string (dm x.1.f.r),.bool x.1.f.n,.bool (decide (x.1.t.p.num<0)),.string (bH x.1.t.p.num.natAbs),.bool false,.string (dm x.1.t.p),.bool (decide (x.1.t.r.num<0)),.string (bH x.1.t.r.num.natAbs),.bool false,.string (dm x.1.t.r),.bool x.1.t.n,.bool x.1.fo,.bool x.1.tp,.bool (decide (x.2.c0.num<0)),.string (bH x.2.c0.num.natAbs),.bool false,.string (dm x.2.c0),.bool (decide (x.2.c1.num<0)),.string (bH x.2.c1.num.natAbs),.bool false,.string (dm x.2.c1),.bool (decide (x.2.c2.num<0)),.string (bH x.2.c2.num.natAbs),.bool false,.string (dm x.2.c2)]
def PtV(x:Iv×Qd):Value:= .agg #[.bool (decide (x.1.f.p.num<0)),.string (bH x.1.f.p.num.natAbs),.bool false,.string (dm x.1.f.p),.bool (decide (x.1.f.r.num<0)),.string (bH x.1.f.r.num.natAbs),.bool false,.string (dm x.1.f.r),.bool x.1.f.n,.bool (decide (x.1.t.p.num<0)),.string (bH x.1.t.p.num.natAbs),.bool false,.string (dm x.1.t.p),.bool (decide (x.1.t.r.num<0)),.string (bH x.1.t.r.num.natAbs),.bool false,.string (dm x.1.t.r),.bool x.1.t.n,.bool x.1.fo,.bool x.1.tp,.bool (decide (x.2.c0.num<0)),.string (bH x.2.c0.num.natAbs),.bool false,.string (dm x.2.c0),.bool (decide (x.2.c1.num<0)),.string (bH x.2.c1.num.natAbs),.bool false,.string (dm x.2.c1),.bool (decide (x.2.c2.num<0)),.string (bH x.2.c2.num.natAbs),.bool false,.string (dm x.2.c2)]
def UH(x:B3):List Value:=[.bool (decide (x.i.f.p.num<0)),.string (bH x.i.f.p.num.natAbs),.bool false,.string (dm x.i.f.p),.bool (decide (x.i.f.r.num<0)),.string (bH x.i.f.r.num.natAbs),.bool false,.string (dm x.i.f.r),.bool x.i.f.n,.bool (decide (x.i.t.p.num<0)),.string (bH x.i.t.p.num.natAbs),.bool false,.string (dm x.i.t.p),.bool (decide (x.i.t.r.num<0)),.string (bH x.i.t.r.num.natAbs),.bool false,.string (dm x.i.t.r),.bool x.i.t.n,.bool x.i.fo,.bool x.i.tp,.bool (decide (x.f.x0.num<0)),.string (bH x.f.x0.num.natAbs),.bool false,.string (dm x.f.x0),.bool (decide (x.f.x1.num<0)),.string (bH x.f.x1.num.natAbs),.bool false,.string (dm x.f.x1),.bool (decide (x.f.y0.num<0)),.string (bH x.f.y0.num.natAbs),.bool false,.string (dm x.f.y0),.bool (decide (x.f.y1.num<0)),.string (bH x.f.y1.num.natAbs),.bool false,.string (dm x.f.y1),.bool (decide (x.g.x0.num<0)),.string (bH x.g.x0.num.natAbs),.bool false,.string (dm x.g.x0),.bool (decide (x.g.x1.num<0)),.string (bH x.g.x1.num.natAbs),.bool false,.string (dm x.g.x1),.bool (decide (x.g.y0.num<0)),.string (bH x.g.y0.num.natAbs),.bool false,.string (dm x.g.y0),.bool (decide (x.g.y1.num<0)),.string (bH x.g.y1.num.natAbs),.bool false,.string (dm x.g.y1)]
def B3V(x:B3):Value:= .agg #[.bool (decide (x.i.f.p.num<0)),.string (bH x.i.f.p.num.natAbs),.bool false,.string (dm x.i.f.p),.bool (decide (x.i.f.r.num<0)),.string (bH x.i.f.r.num.natAbs),.bool false,.string (dm x.i.f.r),.bool x.i.f.n,.bool (decide (x.i.t.p.num<0)),.string (bH x.i.t.p.num.natAbs),.bool false,.string (dm x.i.t.p),.bool (decide (x.i.t.r.num<0)),.string (bH x.i.t.r.num.natAbs),.bool false,.string (dm x.i.t.r),.bool x.i.t.n,.bool x.i.fo,.bool x.i.tp,.bool (decide (x.f.x0.num<0)),.string (bH x.f.x0.num.natAbs),.bool false,.string (dm x.f.x0),.bool (decide (x.f.x1.num<0)),.string (bH x.f.x1.num.natAbs),.bool false,.string (dm x.f.x1),.bool (decide (x.f.y0.num<0)),.string (bH x.f.y0.num.natAbs),.bool false,.string (dm x.f.y0),.bool (decide (x.f.y1.num<0)),.string (bH x.f.y1.num.natAbs),.bool false,.string (dm x.f.y1),.bool (decide (x.g.x0.num<0)),.string (bH x.g.x0.num.natAbs),.bool false,.string (dm x.g.x0),.bool (decide (x.g.x1.num<0)),.string (bH x.g.x1.num.natAbs),.bool false,.string (dm x.g.x1),.bool (decide (x.g.y0.num<0)),.string (bH x.g.y0.num.natAbs),.bool false,.string (dm x.g.y0),.bool (decide (x.g.y1.num<0)),.string (bH x.g.y1.num.natAbs),.bool false,.string (dm x.g.y1)]
def EE(x:Iv×Int):List Value:=[.bool (decide (x.1.f.p.num<0)),.string (bH x.1.f.p.num.natAbs),.bool false,.string (dm x.1.f.p),.bool (decide (x.1.f.r.num<0)),.string (bH x.1.f.r.num.natAbs),.bool false,.string (dm x.1.f.r),.bool x.1.f.n,.bool (decide (x.1.t.p.num<0)),.string (bH x.1.t.p.num.natAbs),.bool false,.string (dm x.1.t.p),.bool (decide (x.1.t.r.num<0)),.string (bH x.1.t.r.num.natAbs),.bool false,.string (dm x.1.t.r),.bool x.1.t.n,.bool x.1.fo,.bool x.1.tp,.int .i64 x.2]
def SgV(x:Iv×Int):Value:= .agg #[.bool (decide (x.1.f.p.num<0)),.string (bH x.1.f.p.num.natAbs),.bool false,.string (dm x.1.f.p),.bool (decide (x.1.f.r.num<0)),.string (bH x.1.f.r.num.natAbs),.bool false,.string (dm x.1.f.r),.bool x.1.f.n,.bool (decide (x.1.t.p.num<0)),.string (bH x.1.t.p.num.natAbs),.bool false,.string (dm x.1.t.p),.bool (decide (x.1.t.r.num<0)),.string (bH x.1.t.r.num.natAbs),.bool false,.string (dm x.1.t.r),.bool x.1.t.n,.bool x.1.fo,.bool x.1.tp,.int .i64 x.2]
def wL(x:Rl×Bool):List Value:=[.bool (decide (x.1.p.num<0)),.string (bH x.1.p.num.natAbs),.bool false,.string (dm x.1.p),.bool (decide (x.1.r.num<0)),.string (bH x.1.r.num.natAbs),.bool false,.string (dm x.1.r),.bool x.1.n,.bool x.2]
def BdV(x:Rl×Bool):Value:= .agg #[.bool (decide (x.1.p.num<0)),.string (bH x.1.p.num.natAbs),.bool false,.string (dm x.1.p),.bool (decide (x.1.r.num<0)),.string (bH x.1.r.num.natAbs),.bool false,.string (dm x.1.r),.bool x.1.n,.bool x.2]
def jQ(x:(Rl×Bool)×Int×Int):List Value:=[.bool (decide (x.1.1.p.num<0)),.string (bH x.1.1.p.num.natAbs),.bool false,.string (dm x.1.1.p),.bool (decide (x.1.1.r.num<0)),.string (bH x.1.1.r.num.natAbs),.bool false,.string (dm x.1.1.r),.bool x.1.1.n,.bool x.1.2,.int .i64 x.2.1,.int .i64 x.2.2]
def EvV(x:(Rl×Bool)×Int×Int):Value:= .agg #[.bool (decide (x.1.1.p.num<0)),.string (bH x.1.1.p.num.natAbs),.bool false,.string (dm x.1.1.p),.bool (decide (x.1.1.r.num<0)),.string (bH x.1.1.r.num.natAbs),.bool false,.string (dm x.1.1.r),.bool x.1.1.n,.bool x.1.2,.int .i64 x.2.1,.int .i64 x.2.2]
end Go.Via
namespace Go.Proofs.YtaffcpfhedadhaaGreatDoor
open Go Go.Via
def EF(d:Nat)(p q:Rat)(w:World):(Op.equalIn (d+4) 36 (Q p) (Q q)).run Tryz.prog w= .ok (decide (p=q)) w:=by
 have h1:=qjj p q;rw[<-h1]
 clear h1
 unfold Q
 generalize decide (p.num<0)=a1,bH p.num.natAbs=a3,dm p=a5
 generalize decide (q.num<0)=b1,bH q.num.natAbs=b3,dm q=b5
 simp only[beq_toListBytes];simp[go_sem]
 (repeat' split)<;>simp_all
def Ru(d:Nat)(x y:Rl)(w:World):(Op.equalIn (d+5) 38 (RV x) (RV y)).run Tryz.prog w= .ok (decide (x=y)) w:=by
 have e:decide (x=y)=(decide (x.p=y.p)&&(decide (x.r=y.r)&&((x.n==y.n)&&true))):=by
  rw[Bool.eq_iff_iff];cases x;cases y;simp[Bool.and_assoc]
 rw[e];have hf:∃f0 f1 f2:Field,(Tryz.prog.fieldsOf 38).toList=[f0,f1,f2]∧f0.name≠ "_" ∧f1.name≠ "_" ∧f2.name≠ "_" ∧f0.type=36∧f1.type=36∧f2.type=4∧f0.offset=0∧f1.offset=4∧f2.offset=8:=⟨⟨"P",36,0,false,"","",0⟩,⟨"R",36,4,false,"","",48⟩,⟨"Neg",4,8,false,"","",96⟩,by kernel_rfl,by decide,by decide,by decide,rfl,rfl,rfl,rfl,rfl,rfl⟩;obtain⟨f0,f1,f2,h0,n0,n1,n2,t0,t1,t2,o0,o1,o2⟩:=hf;unfold RV;rw[run_equalIn_struct w (d+4) 38 _ _ (by kernel_rfl) (by kernel_rfl),h0];have ia4:(isAgg 4).run Tryz.prog w= .ok false w:=by kernel_rfl
 have ia36:(isAgg 36).run Tryz.prog w= .ok true w:=(by kernel_rfl);have so36:(sizeOf 36).run Tryz.prog w= .ok 4 w:=(by kernel_rfl);refine lZ (T:=36) n0 (x:=Q x.p) (y:=Q y.p) ?_ ?_ ?_ (lZ (T:=36) n1 (x:=Q x.r) (y:=Q y.r) ?_ ?_ ?_ (lZ (T:=4) n2 (x:= .bool x.n) (y:= .bool y.n) ?_ ?_ ?_ rfl))
 ·rw[t0,o0];simp[part,ia36,so36];rfl
 ·rw[t0,o0];simp[part,ia36,so36];rfl
 ·rw[t0];exact EF (d+0) _ _ w
 ·rw[t1,o1];simp[part,ia36,so36];rfl
 ·rw[t1,o1];simp[part,ia36,so36];rfl
 ·rw[t1];exact EF (d+0) _ _ w
 ·rw[t2,o2];simp[part,ia4]
 ·rw[t2,o2];simp[part,ia4]
 ·rw[t2];simp[go_sem]
def Pe(x y:Rl)(w:World):(Op.equalIn 10000 38 (RV x) (RV y)).run Tryz.prog w= .ok (decide (x=y)) w:=Ru 9995 x y w
def qgb(d:Nat)(x y:Iv)(w:World):(Op.equalIn (d+6) 61 (kG x) (kG y)).run Tryz.prog w= .ok (decide (x=y)) w:=by
 have e:decide (x=y)=(decide (x.f=y.f)&&(decide (x.t=y.t)&&((x.fo==y.fo)&&((x.tp==y.tp)&&true)))):=by
  rw[Bool.eq_iff_iff];cases x;cases y;simp[Bool.and_assoc]
 rw[e];have hf:∃f0 f1 f2 f3:Field,(Tryz.prog.fieldsOf 61).toList=[f0,f1,f2,f3]∧f0.name≠ "_" ∧f1.name≠ "_" ∧f2.name≠ "_" ∧f3.name≠ "_" ∧f0.type=38∧f1.type=38∧f2.type=4∧f3.type=4∧f0.offset=0∧f1.offset=9∧f2.offset=18∧f3.offset=19:=⟨⟨"From",38,0,false,"","",0⟩,⟨"To",38,9,false,"","",104⟩,⟨"OpenFrom",4,18,false,"","",208⟩,⟨"OpenTo",4,19,false,"","",209⟩,by kernel_rfl,by decide,by decide,by decide,by decide,rfl,rfl,rfl,rfl,rfl,rfl,rfl,rfl⟩;obtain⟨f0,f1,f2,f3,h0,n0,n1,n2,n3,t0,t1,t2,t3,o0,o1,o2,o3⟩:=hf;unfold kG;rw[run_equalIn_struct w (d+5) 61 _ _ (by kernel_rfl) (by kernel_rfl),h0];have ia4:(isAgg 4).run Tryz.prog w= .ok false w:=by kernel_rfl
 have ia38:(isAgg 38).run Tryz.prog w= .ok true w:=(by kernel_rfl);have so38:(sizeOf 38).run Tryz.prog w= .ok 9 w:=(by kernel_rfl);refine lZ (T:=38) n0 (x:=RV x.f) (y:=RV y.f) ?_ ?_ ?_ (lZ (T:=38) n1 (x:=RV x.t) (y:=RV y.t) ?_ ?_ ?_ (lZ (T:=4) n2 (x:= .bool x.fo) (y:= .bool y.fo) ?_ ?_ ?_ (lZ (T:=4) n3 (x:= .bool x.tp) (y:= .bool y.tp) ?_ ?_ ?_ rfl)))
 ·rw[t0,o0];simp[part,ia38,so38];rfl
 ·rw[t0,o0];simp[part,ia38,so38];rfl
 ·rw[t0];exact Ru (d+0) _ _ w
 ·rw[t1,o1];simp[part,ia38,so38];rfl
 ·rw[t1,o1];simp[part,ia38,so38];rfl
 ·rw[t1];exact Ru (d+0) _ _ w
 ·rw[t2,o2];simp[part,ia4]
 ·rw[t2,o2];simp[part,ia4]
 ·rw[t2];simp[go_sem]
 ·rw[t3,o3];simp[part,ia4]
 ·rw[t3,o3];simp[part,ia4]
 ·rw[t3];simp[go_sem]
def qjN(x y:Iv)(w:World):(Op.equalIn 10000 61 (kG x) (kG y)).run Tryz.prog w= .ok (decide (x=y)) w:=qgb 9994 x y w
def qjO(d:Nat)(x y:Qd)(w:World):(Op.equalIn (d+5) 91 (qH x) (qH y)).run Tryz.prog w= .ok (decide (x=y)) w:=by
 have e:decide (x=y)=(decide (x.c0=y.c0)&&(decide (x.c1=y.c1)&&(decide (x.c2=y.c2)&&true))):=by
  rw[Bool.eq_iff_iff];cases x;cases y;simp[Bool.and_assoc]
 rw[e];have hf:∃f0 f1 f2:Field,(Tryz.prog.fieldsOf 91).toList=[f0,f1,f2]∧f0.name≠ "_" ∧f1.name≠ "_" ∧f2.name≠ "_" ∧f0.type=36∧f1.type=36∧f2.type=36∧f0.offset=0∧f1.offset=4∧f2.offset=8:=⟨⟨"C0",36,0,false,"","",0⟩,⟨"C1",36,4,false,"","",48⟩,⟨"C2",36,8,false,"","",96⟩,by kernel_rfl,by decide,by decide,by decide,rfl,rfl,rfl,rfl,rfl,rfl⟩;obtain⟨f0,f1,f2,h0,n0,n1,n2,t0,t1,t2,o0,o1,o2⟩:=hf;unfold qH;rw[run_equalIn_struct w (d+4) 91 _ _ (by kernel_rfl) (by kernel_rfl),h0];have ia36:(isAgg 36).run Tryz.prog w= .ok true w:=by kernel_rfl
 have so36:(sizeOf 36).run Tryz.prog w= .ok 4 w:=(by kernel_rfl);refine lZ (T:=36) n0 (x:=Q x.c0) (y:=Q y.c0) ?_ ?_ ?_ (lZ (T:=36) n1 (x:=Q x.c1) (y:=Q y.c1) ?_ ?_ ?_ (lZ (T:=36) n2 (x:=Q x.c2) (y:=Q y.c2) ?_ ?_ ?_ rfl))
 ·rw[t0,o0];simp[part,ia36,so36];rfl
 ·rw[t0,o0];simp[part,ia36,so36];rfl
 ·rw[t0];exact EF (d+0) _ _ w
 ·rw[t1,o1];simp[part,ia36,so36];rfl
 ·rw[t1,o1];simp[part,ia36,so36];rfl
 ·rw[t1];exact EF (d+0) _ _ w
 ·rw[t2,o2];simp[part,ia36,so36];rfl
 ·rw[t2,o2];simp[part,ia36,so36];rfl
 ·rw[t2];exact EF (d+0) _ _ w
def qlS(x y:Qd)(w:World):(Op.equalIn 10000 91 (qH x) (qH y)).run Tryz.prog w= .ok (decide (x=y)) w:=qjO 9995 x y w
def qjP(d:Nat)(x y:Ln)(w:World):(Op.equalIn (d+5) 98 (xh x) (xh y)).run Tryz.prog w= .ok (decide (x=y)) w:=by
 have e:decide (x=y)=(decide (x.x0=y.x0)&&(decide (x.x1=y.x1)&&(decide (x.y0=y.y0)&&(decide (x.y1=y.y1)&&true)))):=by
  rw[Bool.eq_iff_iff];cases x;cases y;simp[Bool.and_assoc]
 rw[e];have hf:∃f0 f1 f2 f3:Field,(Tryz.prog.fieldsOf 98).toList=[f0,f1,f2,f3]∧f0.name≠ "_" ∧f1.name≠ "_" ∧f2.name≠ "_" ∧f3.name≠ "_" ∧f0.type=36∧f1.type=36∧f2.type=36∧f3.type=36∧f0.offset=0∧f1.offset=4∧f2.offset=8∧f3.offset=12:=⟨⟨"X0",36,0,false,"","",0⟩,⟨"X1",36,4,false,"","",48⟩,⟨"Y0",36,8,false,"","",96⟩,⟨"Y1",36,12,false,"","",144⟩,by kernel_rfl,by decide,by decide,by decide,by decide,rfl,rfl,rfl,rfl,rfl,rfl,rfl,rfl⟩;obtain⟨f0,f1,f2,f3,h0,n0,n1,n2,n3,t0,t1,t2,t3,o0,o1,o2,o3⟩:=hf;unfold xh;rw[run_equalIn_struct w (d+4) 98 _ _ (by kernel_rfl) (by kernel_rfl),h0];have ia36:(isAgg 36).run Tryz.prog w= .ok true w:=by kernel_rfl
 have so36:(sizeOf 36).run Tryz.prog w= .ok 4 w:=(by kernel_rfl);refine lZ (T:=36) n0 (x:=Q x.x0) (y:=Q y.x0) ?_ ?_ ?_ (lZ (T:=36) n1 (x:=Q x.x1) (y:=Q y.x1) ?_ ?_ ?_ (lZ (T:=36) n2 (x:=Q x.y0) (y:=Q y.y0) ?_ ?_ ?_ (lZ (T:=36) n3 (x:=Q x.y1) (y:=Q y.y1) ?_ ?_ ?_ rfl)))
 ·rw[t0,o0];simp[part,ia36,so36];rfl
 ·rw[t0,o0];simp[part,ia36,so36];rfl
 ·rw[t0];exact EF (d+0) _ _ w
 ·rw[t1,o1];simp[part,ia36,so36];rfl
 ·rw[t1,o1];simp[part,ia36,so36];rfl
 ·rw[t1];exact EF (d+0) _ _ w
 ·rw[t2,o2];simp[part,ia36,so36];rfl
 ·rw[t2,o2];simp[part,ia36,so36];rfl
 ·rw[t2];exact EF (d+0) _ _ w
 ·rw[t3,o3];simp[part,ia36,so36];rfl
 ·rw[t3,o3];simp[part,ia36,so36];rfl
 ·rw[t3];exact EF (d+0) _ _ w
def qlT(x y:Ln)(w:World):(Op.equalIn 10000 98 (xh x) (xh y)).run Tryz.prog w= .ok (decide (x=y)) w:=qjP 9995 x y w
def qjQ(d:Nat)(x y:oL)(w:World):(Op.equalIn (d+7) 63 (JP x) (JP y)).run Tryz.prog w= .ok (decide (x=y)) w:=by
 have e:decide (x=y)=(decide (x.i=y.i)&&(decide (x.a=y.a)&&(decide (x.b=y.b)&&true))):=by
  rw[Bool.eq_iff_iff];cases x;cases y;simp[Bool.and_assoc]
 rw[e];have hf:∃f0 f1 f2:Field,(Tryz.prog.fieldsOf 63).toList=[f0,f1,f2]∧f0.name≠ "_" ∧f1.name≠ "_" ∧f2.name≠ "_" ∧f0.type=61∧f1.type=38∧f2.type=38∧f0.offset=0∧f1.offset=20∧f2.offset=29:=⟨⟨"In",61,0,false,"","",0⟩,⟨"From",38,20,false,"","",216⟩,⟨"To",38,29,false,"","",320⟩,by kernel_rfl,by decide,by decide,by decide,rfl,rfl,rfl,rfl,rfl,rfl⟩;obtain⟨f0,f1,f2,h0,n0,n1,n2,t0,t1,t2,o0,o1,o2⟩:=hf;unfold JP;rw[run_equalIn_struct w (d+6) 63 _ _ (by kernel_rfl) (by kernel_rfl),h0];have ia38:(isAgg 38).run Tryz.prog w= .ok true w:=by kernel_rfl
 have so38:(sizeOf 38).run Tryz.prog w= .ok 9 w:=(by kernel_rfl);have ia61:(isAgg 61).run Tryz.prog w= .ok true w:=(by kernel_rfl);have so61:(sizeOf 61).run Tryz.prog w= .ok 20 w:=(by kernel_rfl);refine lZ (T:=61) n0 (x:=kG x.i) (y:=kG y.i) ?_ ?_ ?_ (lZ (T:=38) n1 (x:=RV x.a) (y:=RV y.a) ?_ ?_ ?_ (lZ (T:=38) n2 (x:=RV x.b) (y:=RV y.b) ?_ ?_ ?_ rfl))
 ·rw[t0,o0];simp[part,ia61,so61];rfl
 ·rw[t0,o0];simp[part,ia61,so61];rfl
 ·rw[t0];exact qgb (d+0) _ _ w
 ·rw[t1,o1];simp[part,ia38,so38];rfl
 ·rw[t1,o1];simp[part,ia38,so38];rfl
 ·rw[t1];exact Ru (d+1) _ _ w
 ·rw[t2,o2];simp[part,ia38,so38];rfl
 ·rw[t2,o2];simp[part,ia38,so38];rfl
 ·rw[t2];exact Ru (d+1) _ _ w
def qhN(x y:oL)(w:World):(Op.equalIn 10000 63 (JP x) (JP y)).run Tryz.prog w= .ok (decide (x=y)) w:=qjQ 9993 x y w
end Go.Proofs.YtaffcpfhedadhaaGreatDoor
