/-
  Part 16 (chapter 32): lemmas, walks. Each theorem states its own conditions.
-/
import Derived.Test.YtaffcpfhedadhaaGreatDoorA15
set_option linter.all false
set_option maxRecDepth 20000
set_option maxHeartbeats 20000000
namespace Go.Via
open Go
def inR(i:Iv)(t:Rl):Bool:=(decide (bK i.f t<0)||decide (bK i.f t=0)&& !i.fo)&&(decide (bK t i.t<0)||decide (bK t i.t=0)&& !i.tp)
def ny(l:List Iv)(t:Rl):Bool:=l.any fun i=>inR i t
def nz(l:List Iv)(a b:Rl):Bool:=l.any fun i=>decide (bK i.f a<=0)&&decide (bK b i.t<=0)
def dQ(l:List Iv):List pO:=l.flatMap fun i=>[i.b,i.e]
def bM(l:List Iv):List Rl:=l.flatMap fun i=>[i.f,i.t]
def jO(S:Rl->Prop)(l:List Iv):Prop:=∀i∈l,S i.f∧S i.t
theorem fQ{l:List Iv}{b:pO}:b∈dQ l↔∃i∈l,b=i.b∨b=i.e:=by
 unfold dQ;rw[List.mem_flatMap];simp
theorem mg{l:List Iv}{x:Rl}:x∈bM l↔∃i∈l,x=i.f∨x=i.t:=by
 unfold bM;rw[List.mem_flatMap];simp
def fZ.zero{S:Rl->Prop}{ρ:Rl->Int}(T:fZ S ρ){x y:Rl}(hx:S x)(hy:S y):bK x y=0↔ρ x=ρ y:=by
 have h1:=T.lt hx hy;have h2:=T.gt hx hy;rcases ui x y with h|h|h<;>rw[h] at h1 h2 ⊢ <;>simp at h1 h2 ⊢ <;>omega
theorem qeC{S:Rl->Prop}{ρ:Rl->Int}(T:fZ S ρ){i:Iv}{t:Rl}(hf:S i.f)(ht:S i.t)(h:S t):inR i t=(decide (aT ρ i.b<=aT ρ (t,false))&&decide (aT ρ (t,false)<aT ρ i.e)):=by
 have h1:=T.lt hf h;have h2:=T.lt h ht;have h3:=T.zero hf h;have h4:=T.zero h ht;unfold inR aT Iv.b Iv.e;rw[Bool.eq_iff_iff];simp only[Bool.and_eq_true,Bool.or_eq_true,decide_eq_true_eq,h1,h2,h3,h4];cases i.fo<;>cases i.tp<;>simp<;>omega
theorem Bg{S:Rl->Prop}{ρ:Rl->Int}(T:fZ S ρ){l:List Iv}{t:Rl}(hl:jO S l)(h:S t):ny l t=memB ρ l (aT ρ (t,false)):=by
 unfold ny memB
 induction l with
 |nil=>rfl
 |cons i l ih=>
  rw[List.any_cons,List.any_cons,ih (fun x hx=>hl x (List.mem_cons_of_mem _ hx)),qeC T (hl i (List.mem_cons_self ..)).1 (hl i (List.mem_cons_self ..)).2 h]
theorem Np{S:Rl->Prop}{ρ:Rl->Int}(T:fZ S ρ){l:List Iv}{t u:Rl}(hl:jO S l)(h:S t)(hu:S u)(htu:ρ t<ρ u)(hn:∀x∈bM l,ρ x<=ρ t∨ρ u<=ρ x):nz l t u=memB ρ l (aT ρ (t,true)):=by
 unfold nz memB
 induction l with
 |nil=>rfl
 |cons i l ih=>
  have hi:=hl i (List.mem_cons_self ..);have n1:=hn i.t (mg.2 ⟨i,List.mem_cons_self ..,.inr rfl⟩);rw[List.any_cons,List.any_cons,ih (fun x hx=>hl x (List.mem_cons_of_mem _ hx)) (fun x hx=>by
 obtain⟨j,hj,e⟩:=mg.1 hx;exact hn x (mg.2 ⟨j,List.mem_cons_of_mem _ hj,e⟩))]
  congr 1
  have h1:=T.gt hi.1 h;have h2:=T.gt hu hi.2;unfold aT Iv.b Iv.e;rw[Bool.eq_iff_iff];simp only[Bool.and_eq_true,decide_eq_true_eq];have e1:bK i.f t<=0↔ρ i.f<=ρ t:=(by omega);have e2:bK u i.t<=0↔ρ u<=ρ i.t:=(by omega);rw[e1,e2];cases i.fo<;>cases i.tp<;>simp<;>omega
theorem Bh{ρ:Rl->Int}{l:List Iv}{k1 k2:Int}(h:k1<=k2)(hn:∀b∈dQ l,¬(k1<aT ρ b∧aT ρ b<=k2)):memB ρ l k1=memB ρ l k2:=by
 unfold memB
 induction l with
 |nil=>rfl
 |cons i l ih=>
  have n1:=hn i.b (fQ.2 ⟨i,List.mem_cons_self ..,.inl rfl⟩);have n2:=hn i.e (fQ.2 ⟨i,List.mem_cons_self ..,.inr rfl⟩);rw[List.any_cons,List.any_cons,ih fun b hb=>by
 obtain⟨j,hj,e⟩:=fQ.1 hb;exact hn b (fQ.2 ⟨j,List.mem_cons_of_mem _ hj,e⟩)]
  congr 1
  rw[Bool.eq_iff_iff];simp only[Bool.and_eq_true,decide_eq_true_eq];omega
theorem Ew{ρ:Rl->Int}{l:List Iv}{k:Int}(hn:∀b∈dQ l,k<aT ρ b):memB ρ l k=false:=by
 unfold memB;rw[List.any_eq_false];intro i hi;have:=hn i.b (fQ.2 ⟨i,hi,.inl rfl⟩);simp only[Bool.and_eq_true,decide_eq_true_eq];omega
theorem Bi{ρ:Rl->Int}{l:List Iv}{k:Int}(hn:∀b∈dQ l,aT ρ b<=k):memB ρ l k=false:=by
 unfold memB;rw[List.any_eq_false];intro i hi;have:=hn i.e (fQ.2 ⟨i,hi,.inr rfl⟩);simp only[Bool.and_eq_true,decide_eq_true_eq];omega
def Uy{ρ:Rl->Int}{G:Int->Bool}{p:pO->Bool}{B:List pO}(hp:∀b,p b=true↔b∈B)(HG:∀k1 k2,k1<=k2->(∀b∈B,¬(k1<aT ρ b∧aT ρ b<=k2))->G k1=G k2):
 ∀{C:List pO} {lo:Int},C.Pairwise (fun a b=>aT ρ a<aT ρ b)->(∀c∈C,lo<aT ρ c)->(∀b∈B,aT ρ b<=lo∨b∈C)->Chk (fun c=>G (aT ρ c)) p (G lo) C
 |[],_,_,_,_=>trivial
 |c::cs,lo,hs,hlo,hB=>by
  obtain⟨s1,s2⟩:=List.pairwise_cons.1 hs;have hc:=hlo c (List.mem_cons_self ..);refine⟨?_,Uy hp HG s2 (fun x hx=>s1 x hx) fun b hb=>?_⟩
  ·by_cases hpc:p c=true
   ·exact .inl hpc
   ·refine .inr (HG lo (aT ρ c) (by omega) fun b hb hk=>?_).symm
    rcases hB b hb with h|h
    ·omega
    ·rcases List.mem_cons.1 h with h|h
     ·subst h;exact hpc ((hp b).2 hb)
     ·have:=s1 b h;omega
  ·rcases hB b hb with h|h
   ·exact .inl (by omega)
   ·rcases List.mem_cons.1 h with h|h
    ·subst h;exact .inl (Int.le_refl _)
    ·exact .inr h
theorem qj:∀{ts:List Rl} {b:pO},b∈ni ts↔b.1∈ts
 |[],b=>by simp[ni]
 |t::ts,(x,c)=>by
  unfold ni;rw[List.mem_cons,List.mem_cons,qj (ts:=ts),List.mem_cons];dsimp only
  constructor
  ·rintro(h|h|h)
   ·cases h;exact .inl rfl
   ·cases h;exact .inl rfl
   ·exact .inr h
  ·rintro(h|h)
   ·subst h;cases c;exact .inl rfl;exact .inr (.inl rfl)
   ·exact .inr (.inr h)
theorem sS{ρ:Rl->Int}:∀{ts:List Rl},ts.Pairwise (fun a b=>ρ a<ρ b)->(ni ts).Pairwise (fun a b=>aT ρ a<aT ρ b)
 |[],_=>List.Pairwise.nil
 |t::ts,h=>by
  obtain⟨h1,h2⟩:=List.pairwise_cons.1 h;unfold ni;refine List.pairwise_cons.2 ⟨fun b hb=>?_,List.pairwise_cons.2 ⟨fun b hb=>?_,sS h2⟩⟩
  ·rcases List.mem_cons.1 hb with e|e
   ·subst e;unfold aT;simp;omega
   ·have:=h1 b.1 (qj.1 e);unfold aT;simp;split<;>omega
  ·have:=h1 b.1 (qj.1 hb);unfold aT;simp;split<;>omega
theorem O9{S:Rl->Prop}{ρ:Rl->Int}(T:fZ S ρ){op:Bool->Bool->Bool}(h0:op false false=false){a b:List Iv}(ha:jO S a)(hb:jO S b):
 ∀{ts pre:List Rl},(∀t∈ts,S t)->ts.Pairwise (fun x y=>ρ x<ρ y)->(∀x∈bM a++bM b,x∈ts∨∀t∈ts,ρ x<ρ t)->(∀i∈a++b,S i.f)->
 qhK (fun t=>op (ny a t) (ny b t)) (fun t u=>op (nz a t u) (nz b t u)) (fun c=>op (memB ρ a (aT ρ c)) (memB ρ b (aT ρ c))) ts
 |[],_,_,_,_,_=>trivial
 |[t],_,hS,hs,he,hf=>by
  have ht:=hS t (List.mem_cons_self ..);refine⟨by dsimp only;rw[Bg T ha ht,Bg T hb ht],?_⟩;have hi:∀l:List Iv,(∀x∈bM l,x∈[t]∨∀u∈[t],ρ x<ρ u)->∀c∈dQ l,aT ρ c<=aT ρ (t,true):=fun l hl c hc=>by
   obtain⟨i,hi,e⟩:=fQ.1 hc;have hx:c.1∈bM l:=mg.2 ⟨i,hi,by rcases e with e|e<;>subst e;exact .inl rfl;exact .inr rfl⟩
   have:ρ c.1<=ρ t:=by
    rcases hl c.1 hx with h|h
    ·rw[List.mem_singleton] at h;rw[h];exact Int.le_refl _
    ·have:=h t (List.mem_cons_self ..);omega
   unfold aT;simp;split<;>omega
  dsimp only;rw[Bi (hi a fun x hx=>he x (List.mem_append_left _ hx)),Bi (hi b fun x hx=>he x (List.mem_append_right _ hx)),h0]
 |t::u::ts,pre,hS,hs,he,hf=>by
  obtain⟨s1,s2⟩:=List.pairwise_cons.1 hs;have ht:=hS t (List.mem_cons_self ..);have hu:=hS u (List.mem_cons_of_mem _ (List.mem_cons_self ..));have htu:=s1 u (List.mem_cons_self ..);have hn:∀x∈bM a++bM b,ρ x<=ρ t∨ρ u<=ρ x:=fun x hx=>by
   rcases he x hx with h|h
   ·rcases List.mem_cons.1 h with h|h
    ·rw[h];exact .inl (Int.le_refl _)
    ·rcases List.mem_cons.1 h with h|h
     ·rw[h];exact .inr (Int.le_refl _)
     ·have:=(List.pairwise_cons.1 s2).1 x h;exact .inr (by omega)
   ·have:=h t (List.mem_cons_self ..);exact .inl (by omega)
  refine⟨by dsimp only;rw[Bg T ha ht,Bg T hb ht],?_,O9 T h0 ha hb (pre:=pre) (fun x hx=>hS x (List.mem_cons_of_mem _ hx)) s2 (fun x hx=>?_) hf⟩
  ·dsimp only;rw[Np T ha ht hu htu fun x hx=>hn x (List.mem_append_left _ hx),Np T hb ht hu htu fun x hx=>hn x (List.mem_append_right _ hx)]
  ·rcases he x hx with h|h
   ·rcases List.mem_cons.1 h with h|h
    ·right;intro y hy;rw[h];exact s1 y hy
    ·exact .inl h
   ·exact .inr fun y hy=>h y (List.mem_cons_of_mem _ hy)
theorem Uz{S:Rl->Prop}{ρ:Rl->Int}(T:fZ S ρ){op:Bool->Bool->Bool}(h0:op false false=false){a b:List Iv}(ha:jO S a)(hb:jO S b)(oa:FU ρ a)(ob:FU ρ b)
 {ends:List Rl}(hs:ends.Pairwise (fun x y=>ρ x<ρ y))(he:∀x,x∈ends↔x∈bM a++bM b)
 {l:List (pO×Int×Int)}(hp:l.Perm (BO a++G7 b))(hl:l.Pairwise (fun x y=>aT ρ x.1<=aT ρ y.1)):
 KN (aT ρ) op l 0 0 none=Nk (fun t=>op (ny a t) (ny b t)) (fun t u=>op (nz a t u) (nz b t u)) none ends:=by
 have hES:∀x∈bM a++bM b,S x:=fun x hx=>by
  rcases List.mem_append.1 hx with h|h
  ·obtain⟨i,hi,e⟩:=mg.1 h;rcases e with e|e<;>subst e;exact(ha i hi).1;exact(ha i hi).2
  ·obtain⟨i,hi,e⟩:=mg.1 h;rcases e with e|e<;>subst e;exact(hb i hi).1;exact(hb i hi).2
 have hS:∀t∈ends,S t:=fun t ht=>hES t ((he t).1 ht)
 rw[qeB oa ob hp hl,Eu (O9 T h0 ha hb (pre:=[]) hS hs (fun x hx=> .inl ((he x).2 hx)) (fun i hi=>by
 rcases List.mem_append.1 hi with h|h;exact(ha i h).1;exact(hb i h).1))]
 have hsc:=sS (ρ:=ρ) hs;have hmB:∀b':pO,b'∈dQ a++dQ b->b'∈ni ends:=fun b' h=>by
  refine qj.2 ((he _).2 ?_);rcases List.mem_append.1 h with h|h
  ·obtain⟨i,hi,e⟩:=fQ.1 h;refine List.mem_append_left _ (mg.2 ⟨i,hi,?_⟩);rcases e with e|e<;>subst e;exact .inl rfl;exact .inr rfl
  ·obtain⟨i,hi,e⟩:=fQ.1 h;refine List.mem_append_right _ (mg.2 ⟨i,hi,?_⟩);rcases e with e|e<;>subst e;exact .inl rfl;exact .inr rfl
 obtain⟨lo,hlo⟩:∃lo:Int,∀c∈ni ends,lo<aT ρ c:=by
  generalize ni ends=C
  clear hmB hsc
  induction C with
  |nil=>exact⟨0,fun c hc=>absurd hc (by simp)⟩
  |cons c C ih=>
   obtain⟨lo,h⟩:=ih;refine⟨min lo (aT ρ c-1),fun x hx=>?_⟩
   rcases List.mem_cons.1 hx with e|e
   ·subst e;omega
   ·have:=h x e;omega
 have hG0:op (memB ρ a lo) (memB ρ b lo)=false:=by
  rw[Ew fun c hc=>hlo c (hmB c (List.mem_append_left _ hc)),Ew fun c hc=>hlo c (hmB c (List.mem_append_right _ hc)),h0]
 have hchk:=Uy (ρ:=ρ) (G:=fun k=>op (memB ρ a k) (memB ρ b k)) (p:=fun c=>decide (c∈dQ a++dQ b)) (B:=dQ a++dQ b) (fun c=>by rw[decide_eq_true_eq]) (fun k1 k2 hk hn=>by
 rw[Bh hk fun c hc=>hn c (List.mem_append_left _ hc),Bh (l:=b) hk fun c hc=>hn c (List.mem_append_right _ hc)]) (lo:=lo) hsc hlo (fun c hc=> .inr (hmB c hc))
 rw[hG0] at hchk;rw[oI (st:=none) hchk]
 congr 1
 refine yF (κ:=aT ρ) ?_ ?_ fun c=>?_
 ·exact FT (List.pairwise_map.2 hl)
 ·exact hsc.filter _
 ·have hev:∀c:pO,c∈(BO a++G7 b).map (·.1)↔c∈dQ a++dQ b:=fun c=>by
   rw[List.map_append,List.mem_append,List.mem_append];have e1:∀m:List Iv,c∈(BO m).map (·.1)↔c∈dQ m:=fun m=>by
    unfold BO dQ;rw[List.map_flatMap];rfl
   have e2:∀m:List Iv,c∈(G7 m).map (·.1)↔c∈dQ m:=fun m=>by
    unfold G7 dQ;rw[List.map_flatMap];rfl
   rw[e1,e2]
  have hlm:c∈l.map (·.1)↔c∈dQ a++dQ b:=(by rw[<-hev];exact(hp.map _).mem_iff);rw[List.mem_filter,decide_eq_true_eq]
  constructor
  ·intro h;have h1:=hlm.1 (xC h);exact⟨hmB c h1,h1⟩
  ·intro h;refine Bf (fun x hx y hy e=>?_) (hlm.2 h.2);have m1:S x.1:=hS _ (qj.1 (hmB x (by rw[<-hev];exact(hp.map _).mem_iff.1 hx)));have m2:S y.1:=hS _ (qj.1 (hmB y (by rw[<-hev];exact(hp.map _).mem_iff.1 hy)));exact Wh T m1 m2 e
end Go.Via
namespace Go.Via
open Go
def Ey:Nat->Nat->Nat
 |0,_=>0
 |k+1,n=>let s:=2*Ey k (n/4);if(s+1)*(s+1)<=n then s+1 else s
def bQ(n:Nat):Nat:=Ey (n.log2+1) n
def JE:∀(k n:Nat),n<4^k->Ey k n*Ey k n<=n∧n<(Ey k n+1)*(Ey k n+1)
 |0,n,h=>by simp at h;subst h;simp[Ey]
 |k+1,n,h=>by
  have ih:=JE k (n/4) (by rw[Nat.pow_succ] at h;omega);unfold Ey
  generalize Ey k (n/4)=s at ih ⊢
  dsimp only;obtain⟨h1,h2⟩:=ih;have e1:(2*s)*(2*s)=4*(s*s):=by grind
  have e2:(2*s+1+1)*(2*s+1+1)=4*((s+1)*(s+1)):=by grind
  split
  ·rename_i h3
   refine⟨h3,?_⟩;rw[e2];omega
  ·rename_i h3
   rw[e1];refine⟨by omega,by omega⟩
def JF(n:Nat):bQ n*bQ n<=n∧n<(bQ n+1)*(bQ n+1):=by
 refine JE _ n ?_;have h:n<2^(n.log2+1):=Nat.lt_log2_self;exact Nat.lt_of_lt_of_le h (Nat.pow_le_pow_left (by decide) _)
def UA{a b:Nat}(h:a*a<b*b):a<b:=by
 refine Nat.lt_of_not_le fun h1=>?_
 have:=Nat.mul_le_mul h1 h1;omega
def CY{n k:Nat}(h1:k*k<=n)(h2:n<(k+1)*(k+1)):bQ n=k:=by
 obtain⟨a,b⟩:=JF n;have c1:=UA (Nat.lt_of_le_of_lt a h2);have c2:=UA (Nat.lt_of_le_of_lt h1 b);omega
theorem Rj(k:Nat):bQ (k*k)=k:=CY (Nat.le_refl _) (by
 have:(k+1)*(k+1)=k*k+2*k+1:=(by grind);omega)
def Yq{a x:Nat}(hx:0<x):a<((x+a/x)/2+1)*((x+a/x)/2+1):=by
 generalize hq:a/x=q
 generalize hm:(x+q)/2=m
 have h1:a<x*(q+1):=by
  have:=Nat.lt_mul_div_succ a hx;rw[hq] at this;exact this
 have h2:x+q+1<=2*m+2:=by omega
 have h3:4*(x*(q+1))<=(x+(q+1))*(x+(q+1)):=by
  rcases Nat.le_total x (q+1) with h|h
  ·obtain⟨d,e⟩:=Nat.exists_eq_add_of_le h;rw[e];have:=Nat.zero_le (d*d);grind
  ·obtain⟨d,e⟩:=Nat.exists_eq_add_of_le h;rw[e];have:=Nat.zero_le (d*d);grind
 have h4:=Nat.mul_le_mul h2 h2;have e:(2*m+2)*(2*m+2)=4*((m+1)*(m+1)):=(by grind);have e2:x+(q+1)=x+q+1:=(by omega);rw[e2] at h3;omega
def UB{a x:Nat}(hx:0<x)(h:a<(x+1)*(x+1))(hn:x<=(x+a/x)/2):bQ a=x:=by
 refine CY ?_ h;have h1:x<=a/x:=by omega
 exact(Nat.le_div_iff_mul_le hx).1 h1
def UC{a x:Nat}(ha:0<a)(hx:0<x):0<(x+a/x)/2:=by
 by_cases h:x=1
 ·subst h;rw[Nat.div_one];omega
 ·generalize a/x=q
  omega
def Bj(q:Rat):Bool:=decide (0<=q.num)&&(bQ q.num.natAbs*bQ q.num.natAbs==q.num.natAbs)&&(bQ q.den*bQ q.den==q.den)
def mr(q:Rat):Rat:=Rat.divInt (bQ q.num.natAbs) (bQ q.den)
theorem JG:Bj 0=true:=by decide+kernel
theorem CZ:mr 0=0:=by decide+kernel
structure Qd where
 c0:Rat
 c1:Rat
 c2:Rat
deriving DecidableEq
def vT(f:Qd)(t:Rat):Rat:=f.c0+t*(f.c1+t*f.c2)
def BP(f:Qd)(t:Rat):Rat:=f.c1+(f.c2+f.c2)*t
def mkR(p q r:Rat):Rl:=if Bj r=true then rl (p+q*mr r) else⟨p,q*q*r,decide (dE q<0)⟩
def Nq(f:Qd)(t:Rl):Rl:=mkR (vT f t.p+f.c2*t.r) (if t.n=true then-BP f t.p else BP f t.p) t.r
theorem FV(f:Qd)(q:Rat):Nq f (rl q)=rl (vT f q):=by
 unfold Nq mkR rl;dsimp only;rw[JG,if_pos rfl,CZ];have e:vT f q+f.c2*0+(if false=true then-BP f q else BP f q)*0=vT f q:=by grind
 rw[e]
def Rl.ok(x:Rl):Prop:=(x.r=0∧x.n=false)∨(0<x.r∧Bj x.r=false)
def qhL(x:Rat):Bj (x*x)=true:=by
 have hg:Nat.gcd (x.num*x.num).natAbs (x.den*x.den)=1:=by
  rw[Int.natAbs_mul];exact Nat.Coprime.mul_left (Nat.Coprime.mul_right x.reduced x.reduced) (Nat.Coprime.mul_right x.reduced x.reduced)
 have e:x*x=⟨x.num*x.num,x.den*x.den,Nat.mul_ne_zero x.den_nz x.den_nz,hg⟩:=by
  rw[Rat.mul_def];exact(Rat.mk_eq_normalize _ _ (Nat.mul_ne_zero x.den_nz x.den_nz) hg).symm
 rw[e];unfold Bj;dsimp only;rw[Int.natAbs_mul,Rj,Rj];have:0<=x.num*x.num:=by
  rcases Int.le_total 0 x.num with h|h
  ·exact Int.mul_nonneg h h
  ·exact Int.mul_nonneg_of_nonpos_of_nonpos h h
 simp[this]
def qga(q:Rat):(rl q).ok:= .inl ⟨rfl,rfl⟩
def Rl.ok.r0{x:Rl}(h:x.ok):0<=x.r:=by rcases h with h|h<;>grind
def Rl.ok.rat{x:Rl}(h:x.ok)(h0:x.r=0):x=rl x.p:=by
 rcases h with h|h
 ·cases x;simp only[rl] at*;obtain⟨h1,h2⟩:=h;subst h1;subst h2;rfl
 ·grind
theorem qa3{f:Qd}{t:Rl}(h:t.ok)(h0:t.r≠0):Nq f t=⟨vT f t.p+f.c2*t.r,BP f t.p*BP f t.p*t.r,decide (dE (nZ t*BP f t.p)<0)⟩:=by
 unfold Nq mkR;have hs:Bj t.r=false:=by rcases h with h|h;exact absurd h.1 h0;exact h.2
 rw[hs,if_neg (by decide)];unfold nZ;cases t.n
 ·simp only[Bool.false_eq_true,if_false];rw[Rat.one_mul]
 ·simp only[if_true];have e1: -BP f t.p* -BP f t.p=BP f t.p*BP f t.p:=by grind
  have e2: -1*BP f t.p= -BP f t.p:=(by grind);rw[e1,e2]
end Go.Via
namespace Go.Via
open Go
structure qnd(S:Rl->Prop):Prop where
 swap:∀{x y},S x->S y->bK x y= -bK y x
 trans:∀{x y z},S x->S y->S z->bK x y<0->bK y z<0->bK x z<0
 eq0:∀{x y},S x->S y->bK x y=0->x=y
end Go.Via
namespace Go.Via
open Go
section
variable{A B C:Type}
def ik(mt:A->B->Option C)(ef:A->B->Bool):List A->List B->List C
 |[],_=>[]
 |_::_,[]=>[]
 |x::xs,y::ys=>(mt x y).toList++if ef x y=true then ik mt ef xs (y::ys) else ik mt ef (x::xs) ys
termination_by a b=>a.length+b.length
def flatK(mt:A->B->Option C)(a:List A)(b:List B):List C:=a.flatMap fun x=>b.filterMap (mt x)
theorem uj{f:B->Option C}:∀{l:List B},(∀y∈l,f y=none)->l.filterMap f=[]
 |[],_=>rfl
 |y::l,h=>by rw[List.filterMap_cons_none (h y (List.mem_cons_self ..)),uj fun z hz=>h z (List.mem_cons_of_mem _ hz)]
def Gz{mt:A->B->Option C}{y:B}{ys:List B}:∀{a:List A},(∀x∈a,mt x y=none)->flatK mt a (y::ys)=flatK mt a ys
 |[],_=>rfl
 |x::a,h=>by
  unfold flatK;rw[List.flatMap_cons,List.flatMap_cons,List.filterMap_cons_none (h x (List.mem_cons_self ..))]
  congr 1
  exact Gz fun z hz=>h z (List.mem_cons_of_mem _ hz)
theorem FW{mt:A->B->Option C}{ef:A->B->Bool}{fa la:A->Int}{fb lb:B->Int}:
 ∀{a:List A} {b:List B},(∀x∈a,∀y∈b,(ef x y=true↔la x<=lb y)∧(la x<=fb y->mt x y=none)∧(lb y<=fa x->mt x y=none))->a.Pairwise (fun x y=>la x<=fa y)->b.Pairwise (fun x y=>lb x<=fb y)->ik mt ef a b=flatK mt a b
 |[],_,_,_,_=>by unfold ik;rfl
 |x::xs,[],_,_,_=>by
  unfold ik;have:∀a:List A,flatK mt a []=[]:=fun a=>by
   induction a with
   |nil=>rfl
   |cons z a ih=>unfold flatK at*;rw[List.flatMap_cons,ih];rfl
  exact(this _).symm
 |x::xs,y::ys,H,ha,hb=>by
  obtain⟨a1,a2⟩:=List.pairwise_cons.1 ha;obtain⟨b1,b2⟩:=List.pairwise_cons.1 hb;obtain⟨hef,_,_⟩:=H x (List.mem_cons_self ..) y (List.mem_cons_self ..);have hm1:∀z∈y::ys,la x<=fb z->mt x z=none:=fun z hz=>(H x (List.mem_cons_self ..) z hz).2.1
  have hm2:∀z∈x::xs,lb y<=fa z->mt z y=none:=fun z hz=>(H z hz y (List.mem_cons_self ..)).2.2
  unfold ik
  by_cases h:ef x y=true
  ·have hl:=hef.1 h;rw[if_pos h,FW (fun z hz w hw=>H z (List.mem_cons_of_mem _ hz) w hw) a2 hb];unfold flatK;rw[List.flatMap_cons]
   congr 1
   cases hm:mt x y
   ·rw[List.filterMap_cons_none hm,uj fun z hz=>hm1 z (List.mem_cons_of_mem _ hz) (by have:=b1 z hz;omega)];rfl
   ·rw[List.filterMap_cons_some hm,uj fun z hz=>hm1 z (List.mem_cons_of_mem _ hz) (by have:=b1 z hz;omega)];rfl
  ·have hl:lb y<la x:=Int.not_le.1 fun hh=>h (hef.2 hh)
   rw[if_neg h,FW (fun z hz w hw=>H z hz w (List.mem_cons_of_mem _ hw)) ha b2];have hd:flatK mt xs (y::ys)=flatK mt xs ys:=Gz fun z hz=>hm2 z (List.mem_cons_of_mem _ hz) (by have:=a1 z hz;omega)
   show _=(x::xs).flatMap _;rw[List.flatMap_cons];have e1:xs.flatMap (fun x=>(y::ys).filterMap (mt x))=xs.flatMap (fun x=>ys.filterMap (mt x)):=hd;rw[e1];have e2:flatK mt (x::xs) ys=ys.filterMap (mt x)++xs.flatMap (fun x=>ys.filterMap (mt x)):=by unfold flatK;rw[List.flatMap_cons]
   rw[e2];cases hm:mt x y
   ·rw[List.filterMap_cons_none hm];rfl
   ·rw[List.filterMap_cons_some hm];rfl
termination_by a b=>a.length+b.length
end
def ru(a b:Iv):Rl×Bool:=if bK a.f b.f<0 then(b.f,b.fo) else if bK a.f b.f=0 then(a.f,a.fo||b.fo) else(a.f,a.fo)
def uk(a b:Iv):Rl×Bool:=if 0<bK a.t b.t then(b.t,b.tp) else if bK a.t b.t=0 then(a.t,a.tp||b.tp) else(a.t,a.tp)
def fE(a b:Iv):Iv:=⟨(ru a b).1,(uk a b).1,(ru a b).2,(uk a b).2⟩
def jP(i:Iv):Bool:=decide (bK i.f i.t<0)||decide (bK i.f i.t=0)&&(!i.fo&& !i.tp)
def iT(a b:Iv):Option Iv:=if jP (fE a b)=true then some (fE a b) else none
def Ez(a b:Iv):Bool:=decide (bK a.t b.t<0)||decide (bK a.t b.t=0)&&(a.tp|| !b.tp)
def JH{S:Rl->Prop}{ρ:Rl->Int}(T:fZ S ρ){a b:Iv}(ha:S a.f)(hb:S b.f):(fE a b).b=a.b∧aT ρ b.b<=aT ρ a.b∨(fE a b).b=b.b∧aT ρ a.b<=aT ρ b.b:=by
 have h1:=T.lt ha hb;have h2:=T.zero ha hb;have h3:=T.gt ha hb;unfold fE ru Iv.b aT;dsimp only;rcases ui a.f b.f with h|h|h<;>rw[h] at h1 h2 h3 ⊢
 ·right
  have:=h1.1 (by decide);simp;split<;>split<;>omega
 ·have e:=h2.1 rfl;have e':=T.inj ha hb e;simp;rw[e'];cases a.fo<;>cases b.fo<;>simp<;>omega
 ·left
  have:=h3.1 (by decide);simp;split<;>split<;>omega
def JI{S:Rl->Prop}{ρ:Rl->Int}(T:fZ S ρ){a b:Iv}(ha:S a.t)(hb:S b.t):(fE a b).e=a.e∧aT ρ a.e<=aT ρ b.e∨(fE a b).e=b.e∧aT ρ b.e<=aT ρ a.e:=by
 have h1:=T.lt ha hb;have h2:=T.zero ha hb;have h3:=T.gt ha hb;unfold fE uk Iv.e aT;dsimp only;rcases ui a.t b.t with h|h|h<;>rw[h] at h1 h2 h3 ⊢
 ·left
  have:=h1.1 (by decide);simp;split<;>split<;>omega
 ·have e:=h2.1 rfl;have e':=T.inj ha hb e;simp;rw[e'];cases a.tp<;>cases b.tp<;>simp<;>omega
 ·right
  have:=h3.1 (by decide);simp;split<;>split<;>omega
theorem ul{S:Rl->Prop}{ρ:Rl->Int}(T:fZ S ρ){i:Iv}(hf:S i.f)(ht:S i.t):jP i=true↔aT ρ i.b<aT ρ i.e:=by
 have h1:=T.lt hf ht;have h2:=T.zero hf ht;unfold jP aT Iv.b Iv.e;simp only[Bool.or_eq_true,Bool.and_eq_true,decide_eq_true_eq,h1,h2];cases i.fo<;>cases i.tp<;>simp<;>omega
def Yt{S:Rl->Prop}{ρ:Rl->Int}(T:fZ S ρ){a b:Iv}(ha:S a.t)(hb:S b.t):Ez a b=true↔aT ρ a.e<=aT ρ b.e:=by
 have h1:=T.lt ha hb;have h2:=T.zero ha hb;unfold Ez aT Iv.e;simp only[Bool.or_eq_true,Bool.and_eq_true,decide_eq_true_eq,h1,h2];cases a.tp<;>cases b.tp<;>simp<;>omega
def FX{S:Rl->Prop}{a b:Iv}(ha:S a.f∧S a.t)(hb:S b.f∧S b.t):S (fE a b).f∧S (fE a b).t:=by
 unfold fE ru uk;dsimp only
 constructor
 ·split
  ·exact hb.1
  ·split<;>exact ha.1
 ·split
  ·exact hb.2
  ·split<;>exact ha.2
theorem Yu{S:Rl->Prop}{ρ:Rl->Int}(T:fZ S ρ){a b:Iv}(ha:S a.f∧S a.t)(hb:S b.f∧S b.t)(h:aT ρ a.e<=aT ρ b.b∨aT ρ b.e<=aT ρ a.b)(oa:aT ρ a.b<aT ρ a.e)(ob:aT ρ b.b<aT ρ b.e):iT a b=none:=by
 unfold iT;refine if_neg fun hk=>?_
 have hk:=(ul T (FX ha hb).1 (FX ha hb).2).1 hk;rcases JH T ha.1 hb.1 with⟨e1,_⟩|⟨e1,_⟩<;>rcases JI T ha.2 hb.2 with⟨e2,_⟩|⟨e2,_⟩<;>rw[e1,e2] at hk<;>omega
end Go.Via
namespace Go.Via
open Go
def ry(x:Rl):List Rl->List Rl
 |[]=>[x]
 |y::ys=>if bK y x<0 then y::ry x ys else if bK y x=0 then y::ys else x::y::ys
def dW(l:List Rl):List Rl:=l.foldl (fun o x=>ry x o) []
theorem EC{S:Rl->Prop}{ρ:Rl->Int}(T:fZ S ρ){x:Rl}(hx:S x):∀{l:List Rl},(∀y∈l,S y)->∀z,z∈ry x l↔z=x∨z∈l
 |[],_,z=>by unfold ry;simp
 |y::ys,h,z=>by
  have hy:=h y (List.mem_cons_self ..);have ih:=EC T hx (l:=ys) (fun w hw=>h w (List.mem_cons_of_mem _ hw)) z;unfold ry
  split
  ·rw[List.mem_cons,ih,List.mem_cons]
   constructor
   ·rintro(h|h|h);exact .inr (.inl h);exact .inl h;exact .inr (.inr h)
   ·rintro(h|h|h);exact .inr (.inl h);exact .inl h;exact .inr (.inr h)
  ·split
   ·rename_i h2
    have e:y=x:=T.inj hy hx ((T.zero hy hx).1 h2)
    constructor
    ·exact .inr
    ·rintro(h|h)
     ·rw[h,<-e];exact List.mem_cons_self ..
     ·exact h
   ·rw[List.mem_cons]
def GG{S:Rl->Prop}{ρ:Rl->Int}(T:fZ S ρ){x:Rl}(hx:S x):∀{l:List Rl},(∀y∈l,S y)->l.Pairwise (fun a b=>ρ a<ρ b)->(ry x l).Pairwise (fun a b=>ρ a<ρ b)
 |[],_,_=>List.pairwise_singleton ..
 |y::ys,h,hs=>by
  obtain⟨s1,s2⟩:=List.pairwise_cons.1 hs;have hy:=h y (List.mem_cons_self ..);have h':∀w∈ys,S w:=fun w hw=>h w (List.mem_cons_of_mem _ hw)
  have l1:=T.lt hy hx;have l2:=T.zero hy hx;unfold ry
  split
  ·rename_i hc
   refine List.pairwise_cons.2 ⟨fun z hz=>?_,GG T hx h' s2⟩;rcases(EC T hx h' z).1 hz with e|e
   ·rw[e];exact l1.1 hc
   ·exact s1 z e
  ·split
   ·exact hs
   ·have:ρ x<ρ y:=by
     have a1:¬ρ y<ρ x:=fun e=>absurd (l1.2 e) (by assumption)
     have a2:¬ρ y=ρ x:=fun e=>absurd (l2.2 e) (by assumption)
     omega
    refine List.pairwise_cons.2 ⟨fun z hz=>?_,hs⟩;rcases List.mem_cons.1 hz with e|e
    ·rw[e];exact this
    ·have:=s1 z e;omega
def um{S:Rl->Prop}{ρ:Rl->Int}(T:fZ S ρ){l:List Rl}(h:∀y∈l,S y):(dW l).Pairwise (fun a b=>ρ a<ρ b)∧∀z,z∈dW l↔z∈l:=by
 have gen:∀(l o:List Rl),(∀y∈l,S y)->(∀y∈o,S y)->o.Pairwise (fun a b=>ρ a<ρ b)->(l.foldl (fun o x=>ry x o) o).Pairwise (fun a b=>ρ a<ρ b)∧∀z,z∈l.foldl (fun o x=>ry x o) o↔z∈l∨z∈o:=by
  intro l
  induction l with
  |nil=>intro o _ _ hs;exact⟨hs,fun z=>by simp⟩
  |cons x l ih=>
   intro o hl ho hs;have hx:=hl x (List.mem_cons_self ..);obtain⟨i1,i2⟩:=ih (ry x o) (fun y hy=>hl y (List.mem_cons_of_mem _ hy)) (fun y hy=>by
 rcases(EC T hx ho y).1 hy with e|e
 ·rw[e];exact hx
 ·exact ho y e) (GG T hx ho hs)
   refine⟨i1,fun z=>?_⟩
   rw[List.foldl_cons,i2,EC T hx ho,List.mem_cons]
   constructor
   ·rintro(h|h|h);exact .inl (.inr h);exact .inl (.inl h);exact .inr h
   ·rintro((h|h)|h);exact .inr (.inl h);exact .inl h;exact .inr (.inr h)
 obtain⟨a,b⟩:=gen l [] h (by simp) List.Pairwise.nil;exact⟨a,fun z=>by rw[show z∈dW l↔_ from b z];simp⟩
def kD(op:Bool->Bool->Bool)(a b:List Iv):List Iv:=(Nk (fun t=>op (ny a t) (ny b t)) (fun t u=>op (nz a t u) (nz b t u)) none (dW (bM (a++b)))).map fun p=>G6 p.1 p.2
theorem rC{a b:List Iv}:bM (a++b)=bM a++bM b:=by unfold bM;rw[List.flatMap_append]
theorem qa4{S:Rl->Prop}{ρ:Rl->Int}(T:fZ S ρ){G:Int->Bool}{B C D:List pO}(HG:∀k1 k2,k1<=k2->(∀b∈B,¬(k1<aT ρ b∧aT ρ b<=k2))->G k1=G k2)(H0:∀k,(∀b∈B,k<aT ρ b)->G k=false)
 (hC:C.Pairwise (fun a b=>aT ρ a<aT ρ b))(hD:D.Pairwise (fun a b=>aT ρ a<aT ρ b))(bC:∀b∈B,b∈C)(bD:∀b∈B,b∈D):iy (fun c=>G (aT ρ c)) none C=iy (fun c=>G (aT ρ c)) none D:=by
 have low:∀C:List pO,∃lo:Int,∀c∈C,lo<aT ρ c:=fun C=>by
  induction C with
  |nil=>exact⟨0,fun c hc=>absurd hc (by simp)⟩
  |cons c C ih=>
   obtain⟨lo,h⟩:=ih;refine⟨min lo (aT ρ c-1),fun x hx=>?_⟩
   rcases List.mem_cons.1 hx with e|e
   ·subst e;omega
   ·have:=h x e;omega
 have one:∀C:List pO,C.Pairwise (fun a b=>aT ρ a<aT ρ b)->(∀b∈B,b∈C)->iy (fun c=>G (aT ρ c)) none C=iy (fun c=>G (aT ρ c)) none (C.filter fun c=>decide (c∈B)):=fun C hC bC=>by
  obtain⟨lo,hlo⟩:=low C;have hchk:=Uy (ρ:=ρ) (G:=G) (p:=fun c=>decide (c∈B)) (B:=B) (fun c=>by rw[decide_eq_true_eq]) HG (lo:=lo) hC hlo fun c hc=> .inr (bC c hc)
  rw[H0 lo fun b hb=>hlo b (bC b hb)] at hchk
  exact oI (st:=none) hchk
 rw[one C hC bC,one D hD bD]
 congr 1
 refine yF (κ:=aT ρ) (hC.filter _) (hD.filter _) fun c=>?_
 rw[List.mem_filter,List.mem_filter,decide_eq_true_eq]
 constructor
 ·rintro⟨_,h⟩;exact⟨bD c h,h⟩
 ·rintro⟨_,h⟩;exact⟨bC c h,h⟩
theorem tC{S:Rl->Prop}{l:List Iv}(h:jO S l):∀x∈bM l,S x:=fun x hx=>by
 obtain⟨i,hi,e⟩:=mg.1 hx;rcases e with e|e<;>subst e;exact(h i hi).1;exact(h i hi).2
theorem mD{S:Rl->Prop}{a b:List Iv}(ha:jO S a)(hb:jO S b):jO S (a++b):=fun i hi=>by
 rcases List.mem_append.1 hi with h|h;exact ha i h;exact hb i h
theorem C9{S:Rl->Prop}{ρ:Rl->Int}(T:fZ S ρ){op:Bool->Bool->Bool}(h0:op false false=false){a b:List Iv}(ha:jO S a)(hb:jO S b):
 kD op a b=(iy (fun c=>op (memB ρ a (aT ρ c)) (memB ρ b (aT ρ c))) none (ni (dW (bM (a++b))))).map fun p=>G6 p.1 p.2:=by
 obtain⟨h1,h2⟩:=um T (tC (mD ha hb));unfold kD;rw[Eu (O9 T h0 ha hb (pre:=[]) (fun t ht=>tC (mD ha hb) t ((h2 t).1 ht)) h1 (fun x hx=> .inl ((h2 x).2 (by rw[rC];exact hx))) fun i hi=>(mD ha hb i hi).1)]
def JJ{a b:List Iv}{S:Rl->Prop}{ρ:Rl->Int}(T:fZ S ρ)(ha:jO S a)(hb:jO S b):∀c∈dQ a++dQ b,c∈ni (dW (bM (a++b))):=fun c hc=>by
 obtain⟨_,h2⟩:=um T (tC (mD ha hb));refine qj.2 ((h2 _).2 ?_);rw[rC];rcases List.mem_append.1 hc with h|h
 ·obtain⟨i,hi,e⟩:=fQ.1 h;refine List.mem_append_left _ (mg.2 ⟨i,hi,?_⟩);rcases e with e|e<;>subst e;exact .inl rfl;exact .inr rfl
 ·obtain⟨i,hi,e⟩:=fQ.1 h;refine List.mem_append_right _ (mg.2 ⟨i,hi,?_⟩);rcases e with e|e<;>subst e;exact .inl rfl;exact .inr rfl
end Go.Via
namespace Go.Via
open Go
structure Ln where
 x0:Rat
 x1:Rat
 y0:Rat
 y1:Rat
deriving DecidableEq
structure PU where
 i:Iv
 f:Ln
deriving DecidableEq
def dY(i:Iv):Bool:=decide (i.f=i.t)
def qx(f:Ln):Qd:=⟨f.x0,f.x1,0⟩
def qy(f:Ln):Qd:=⟨f.y0,f.y1,0⟩
def iU(f:Ln)(t:Rl):Ln:=if t.r=0 then⟨vT (qx f) t.p,0,vT (qy f) t.p,0⟩ else f
def Dc(f g:Ln):Ln:=⟨f.x0-g.x0,f.x1-g.x1,f.y0-g.y0,f.y1-g.y1⟩
def oJ(f g:Ln)(t:Rl):Bool:=decide (iU (Dc f g) t=⟨0,0,0,0⟩)
def ig(u:PU):List PU:=
 (if u.i.fo=true then[] else[⟨⟨u.i.f,u.i.f,false,false⟩,u.f⟩])++
 (if dY u.i=true then[] else⟨⟨u.i.f,u.i.t,true,true⟩,u.f⟩::(if u.i.tp=true then[] else[⟨⟨u.i.t,u.i.t,false,false⟩,u.f⟩]))
def aA(l:List PU):List PU:=l.flatMap ig
def oW(out:List PU)(t:Rl):Bool:=match out.getLast? with|some u=>decide (u.i.t=t)&& !u.i.tp|none=>false
def sU(out:List PU)(t:Rl):Option PU:=match out.getLast? with|some u=>if u.i.t=t∧dY u.i=false then some u else none|none=>none
def iY(out:List PU)(u:PU):List PU:=out.dropLast++[u]
def jU(out:List PU)(prev:Option PU)(x:PU)(next:Option PU):List PU:=
 match dY x.i,sU out x.i.f with
 |false,some b=>if b.i.tp=false∧b.f=x.f then iY out ⟨⟨b.i.f,x.i.t,b.i.fo,true⟩,b.f⟩ else
  out++[⟨⟨x.i.f,x.i.t,(match prev with|some p=>if dY p.i=true∧p.i.f=x.i.f∧oW out x.i.f=false then false else x.i.fo|none=>x.i.fo),x.i.tp⟩,x.f⟩]
 |false,none=>out++[⟨⟨x.i.f,x.i.t,(match prev with|some p=>if dY p.i=true∧p.i.f=x.i.f∧oW out x.i.f=false then false else x.i.fo|none=>x.i.fo),x.i.tp⟩,x.f⟩]
 |true,some b=>if oJ b.f x.f x.i.f=true then iY out ⟨⟨b.i.f,b.i.t,b.i.fo,false⟩,b.f⟩ else
  (match next with|some n=>if n.i.f=x.i.f∧oJ n.f x.f x.i.f=true then out else out++[⟨x.i,iU x.f x.i.f⟩]|none=>out++[⟨x.i,iU x.f x.i.f⟩])
 |true,none=>(match next with|some n=>if n.i.f=x.i.f∧oJ n.f x.f x.i.f=true then out else out++[⟨x.i,iU x.f x.i.f⟩]|none=>out++[⟨x.i,iU x.f x.i.f⟩])
def uo:Option PU->List PU->List PU->List PU
 |_,out,[]=>out
 |prev,out,x::xs=>uo (some x) (jU out prev x xs.head?) xs
def pU(l:List PU):List PU:=uo none [] (aA l)
def pJ(ρ:Rl->Int)(l:List PU):Prop:=l.Pairwise (fun x y=>aT ρ x.i.e<=aT ρ y.i.b)∧∀x∈l,aT ρ x.i.b<aT ρ x.i.e
def Ends(S:Rl->Prop)(l:List PU):Prop:=∀x∈l,S x.i.f∧S x.i.t
def zV(ρ:Rl->Int)(b:pO):2*ρ b.1<=aT ρ b∧aT ρ b<=2*ρ b.1+1:=by unfold aT;split<;>omega
def zW{ρ:Rl->Int}{l:List PU}{u:PU}(h:pJ ρ l)(hu:aT ρ u.i.b<aT ρ u.i.e)(hl:∀x∈l,aT ρ x.i.e<=aT ρ u.i.b):pJ ρ (l++[u]):=
 ⟨List.pairwise_append.2 ⟨h.1,List.pairwise_singleton ..,fun x hx y hy=>by rw[List.mem_singleton] at hy;rw[hy];exact hl x hx⟩,fun x hx=>by
 rcases List.mem_append.1 hx with e|e
 ·exact h.2 x e
 ·rw[List.mem_singleton] at e;rw[e];exact hu⟩
def xE{S:Rl->Prop}{l:List PU}{u:PU}(h:Ends S l)(hu:S u.i.f∧S u.i.t):Ends S (l++[u]):=fun x hx=>by
 rcases List.mem_append.1 hx with e|e
 ·exact h x e
 ·rw[List.mem_singleton] at e;rw[e];exact hu
theorem oZ{l:List PU}{b:PU}(h:l.getLast? =some b):l=l.dropLast++[b]:=by
 have hne:l≠[]:=fun e=>by rw[e] at h;cases h
 have:=List.dropLast_concat_getLast hne;rw[List.getLast?_eq_some_getLast hne] at h
 injection h with h
 rw[h] at this;exact this.symm
def Rk{ρ:Rl->Int}{l:List PU}{b:PU}(h:pJ ρ (l++[b])):pJ ρ l∧(∀x∈l,aT ρ x.i.e<=aT ρ b.i.b)∧aT ρ b.i.b<aT ρ b.i.e:=by
 obtain⟨h1,h2⟩:=h;obtain⟨a1,_,a3⟩:=List.pairwise_append.1 h1;exact⟨⟨a1,fun x hx=>h2 x (List.mem_append_left _ hx)⟩,fun x hx=>a3 x hx b (by simp),h2 b (by simp)⟩
def xG{out:List PU}{t:Rl}{b:PU}(h:sU out t=some b):out.getLast? =some b∧b.i.t=t∧dY b.i=false:=by
 unfold sU at h;cases hl:out.getLast? with
 |none=>rw[hl] at h;cases h
 |some u=>
  rw[hl] at h;dsimp only at h
  split at h
  ·injection h with h;subst h;rename_i hc;exact⟨rfl,hc⟩
  ·cases h
def Yv{S:Rl->Prop}{ρ:Rl->Int}(T:fZ S ρ){out:List PU}{prev next:Option PU}{x:PU}{lo:Int}(hs:pJ ρ out)(he:Ends S out)(hx:S x.i.f∧S x.i.t)(ho:aT ρ x.i.b<aT ρ x.i.e)
 (hlo:∀u∈out,aT ρ u.i.e<=lo)(hxl:lo<=aT ρ x.i.b)(hform:(x.i.f=x.i.t∧x.i.fo=false∧x.i.tp=false)∨(ρ x.i.f<ρ x.i.t∧x.i.fo=true∧x.i.tp=true)):
 pJ ρ (jU out prev x next)∧Ends S (jU out prev x next)∧∀u∈jU out prev x next,aT ρ u.i.e<=aT ρ x.i.e:=by
 have keepE:∀u∈out,aT ρ u.i.e<=aT ρ x.i.e:=fun u hu=>by have:=hlo u hu;omega
 have snocE:∀v:PU,aT ρ v.i.e=aT ρ x.i.e->∀u∈out++[v],aT ρ u.i.e<=aT ρ x.i.e:=fun v hv u hu=>by
  rcases List.mem_append.1 hu with e|e
  ·exact keepE u e
  ·rw[List.mem_singleton] at e;rw[e];omega
 have red:pJ ρ (out++[⟨x.i,iU x.f x.i.f⟩])∧Ends S (out++[⟨x.i,iU x.f x.i.f⟩])∧∀u∈out++[⟨x.i,iU x.f x.i.f⟩],aT ρ u.i.e<=aT ρ x.i.e:=
  ⟨zW hs ho fun u hu=>by have:=hlo u hu;show _<=aT ρ x.i.b;omega,xE he hx,snocE _ rfl⟩
 have app:pJ ρ (out++[⟨⟨x.i.f,x.i.t,(match prev with|some p=>if dY p.i=true∧p.i.f=x.i.f∧oW out x.i.f=false then false else x.i.fo|none=>x.i.fo),x.i.tp⟩,x.f⟩])∧Ends S (out++[⟨⟨x.i.f,x.i.t,(match prev with|some p=>if dY p.i=true∧p.i.f=x.i.f∧oW out x.i.f=false then false else x.i.fo|none=>x.i.fo),x.i.tp⟩,x.f⟩])∧
  ∀u∈out++[⟨⟨x.i.f,x.i.t,(match prev with|some p=>if dY p.i=true∧p.i.f=x.i.f∧oW out x.i.f=false then false else x.i.fo|none=>x.i.fo),x.i.tp⟩,x.f⟩],aT ρ u.i.e<=aT ρ x.i.e:=by
  generalize hb:(match prev with|some p=>if dY p.i=true∧p.i.f=x.i.f∧oW out x.i.f=false then false else x.i.fo|none=>x.i.fo)=c
  have hc:c=x.i.fo∨(c=false∧oW out x.i.f=false):=by
   rw[<-hb];cases prev with
   |none=>exact .inl rfl
   |some p=>dsimp only;split;rename_i h;exact .inr ⟨rfl,h.2.2⟩;exact .inl rfl
  have hb0:aT ρ (x.i.f,c)<=aT ρ x.i.b:=by
   rcases hc with e|e
   ·rw[e];exact Int.le_refl _
   ·rw[e.1];unfold aT Iv.b;simp;split<;>omega
  refine⟨zW hs ?_ fun u hu=>?_,xE he hx,snocE _ rfl⟩
  ·show aT ρ (x.i.f,c)<aT ρ x.i.e;omega
  ·show aT ρ u.i.e<=aT ρ (x.i.f,c);rcases hc with e|⟨e,hh⟩
   ·rw[e];have:=hlo u hu;have:aT ρ (x.i.f,x.i.fo)=aT ρ x.i.b:=rfl;omega
   ·rw[e]
    have hle:aT ρ u.i.e<=aT ρ x.i.b:=(by have:=hlo u hu;omega);have hne:out≠[]:=fun e=>by rw[e] at hu;simp at hu
    obtain⟨b,hbl⟩:∃b,out.getLast? =some b:=⟨_,List.getLast?_eq_some_getLast hne⟩;have hsn:=oZ hbl;rw[hsn] at hs hu he hlo;obtain⟨i1,i2,i3⟩:=Rk hs;have hbe:aT ρ b.i.e<=aT ρ (x.i.f,false):=by
     have h1:aT ρ b.i.e<=aT ρ x.i.b:=(by have:=hlo b (by simp);omega);unfold oW at hh;rw[hbl] at hh;dsimp only at hh;have hbS:=(he b (by simp)).2
     by_cases ht:b.i.t=x.i.f
     ·rw[decide_eq_true ht,Bool.true_and] at hh;have:b.i.tp=true:=by simpa using hh
      unfold aT Iv.e Iv.b at*;rw[this,ht];simp
     ·have hne:ρ b.i.t≠ρ x.i.f:=fun e=>ht (T.inj hbS hx.1 e)
      have k1:=zV ρ b.i.e;have k2:=zV ρ x.i.b;have k3:=zV ρ (x.i.f,false);have k4:b.i.e.1=b.i.t:=rfl;have k5:x.i.b.1=x.i.f:=rfl;rw[k4] at k1;rw[k5] at k2;dsimp only at k3;omega
    rcases List.mem_append.1 hu with e'|e'
    ·have:=i2 u e';omega
    ·rw[List.mem_singleton] at e';rw[e'];exact hbe
 have nx:pJ ρ (match next with|some n=>if n.i.f=x.i.f∧oJ n.f x.f x.i.f=true then out else out++[⟨x.i,iU x.f x.i.f⟩]|none=>out++[⟨x.i,iU x.f x.i.f⟩])∧Ends S (match next with|some n=>if n.i.f=x.i.f∧oJ n.f x.f x.i.f=true then out else out++[⟨x.i,iU x.f x.i.f⟩]|none=>out++[⟨x.i,iU x.f x.i.f⟩])∧
  ∀u:PU,u∈(match next with|some n=>if n.i.f=x.i.f∧oJ n.f x.f x.i.f=true then out else out++[(⟨x.i,iU x.f x.i.f⟩:PU)]|none=>out++[(⟨x.i,iU x.f x.i.f⟩:PU)])->aT ρ u.i.e<=aT ρ x.i.e:=by
  cases next with
  |none=>exact red
  |some n=>
   dsimp only
   split
   ·exact⟨hs,he,keepE⟩
   ·exact red
 have setE:∀{b v:PU},sU out x.i.f=some b->v.i.b=b.i.b->v.i.f=b.i.f->S v.i.t->aT ρ v.i.b<aT ρ v.i.e->aT ρ v.i.e<=aT ρ x.i.e->pJ ρ (iY out v)∧Ends S (iY out v)∧∀u∈iY out v,aT ρ u.i.e<=aT ρ x.i.e:=fun {b v} hb h1 h2 h3 h4 h5=>by
  obtain⟨hl,_,_⟩:=xG hb;have hsn:=oZ hl;have hs':=hs;have he':=he;rw[hsn] at hs' he';obtain⟨i1,i2,i3⟩:=Rk hs';unfold iY;refine⟨zW i1 h4 fun u hu=>by rw[h1];exact i2 u hu,xE (fun u hu=>he' u (List.mem_append_left _ hu)) ⟨by rw[h2];exact(he' b (by simp)).1,h3⟩,fun u hu=>?_⟩
  rcases List.mem_append.1 hu with e|e
  ·exact keepE u (by rw[hsn];exact List.mem_append_left _ e)
  ·rw[List.mem_singleton] at e;rw[e];exact h5
 unfold jU;have fin:∀b,sU out x.i.f=some b->(dY x.i=false->b.i.tp=false∧b.f=x.f->pJ ρ (iY out ⟨⟨b.i.f,x.i.t,b.i.fo,true⟩,b.f⟩)∧Ends S (iY out ⟨⟨b.i.f,x.i.t,b.i.fo,true⟩,b.f⟩)∧∀u∈iY out ⟨⟨b.i.f,x.i.t,b.i.fo,true⟩,b.f⟩,aT ρ u.i.e<=aT ρ x.i.e)∧
  (dY x.i=true->pJ ρ (iY out ⟨⟨b.i.f,b.i.t,b.i.fo,false⟩,b.f⟩)∧Ends S (iY out ⟨⟨b.i.f,b.i.t,b.i.fo,false⟩,b.f⟩)∧∀u∈iY out ⟨⟨b.i.f,b.i.t,b.i.fo,false⟩,b.f⟩,aT ρ u.i.e<=aT ρ x.i.e):=fun b hb=>by
  obtain⟨hl,ht,hn⟩:=xG hb;have hbm:b∈out:=by rw[oZ hl];simp
  have hbo:=hs.2 b hbm;have hble:=hlo b hbm
  constructor
  ·intro hi _;refine setE hb rfl rfl hx.2 ?_ ?_
   ·have e1:aT ρ (Iv.e ⟨b.i.f,x.i.t,b.i.fo,true⟩)=2*ρ x.i.t:=by unfold aT Iv.e;simp
    have e2:aT ρ (Iv.b ⟨b.i.f,x.i.t,b.i.fo,true⟩)=aT ρ b.i.b:=rfl;rcases hform with hf|hf
    ·exfalso;unfold dY at hi;rw[decide_eq_true hf.1] at hi;cases hi
    ·have e3:aT ρ x.i.b=2*ρ x.i.f+1:=by unfold aT Iv.b;rw[hf.2.1];simp
     show aT ρ (Iv.b ⟨b.i.f,x.i.t,b.i.fo,true⟩)<aT ρ (Iv.e ⟨b.i.f,x.i.t,b.i.fo,true⟩);omega
   ·rcases hform with hf|hf
    ·exfalso;unfold dY at hi;rw[decide_eq_true hf.1] at hi;cases hi
    ·show aT ρ (Iv.e ⟨b.i.f,x.i.t,b.i.fo,true⟩)<=_;unfold aT Iv.e;rw[hf.2.2];exact Int.le_refl _
  ·intro hi;refine setE hb rfl rfl (by show S b.i.t;rw[ht];exact hx.1) ?_ ?_
   ·have e1:aT ρ b.i.e<=aT ρ (Iv.e ⟨b.i.f,b.i.t,b.i.fo,false⟩):=by
     have:=zV ρ b.i.e;have e:b.i.e.1=b.i.t:=rfl;rw[e] at this;unfold aT Iv.e at*;simp at*;omega
    show aT ρ b.i.b<aT ρ (Iv.e ⟨b.i.f,b.i.t,b.i.fo,false⟩);omega
   ·rcases hform with hf|hf
    ·show aT ρ (Iv.e ⟨b.i.f,b.i.t,b.i.fo,false⟩)<=_;unfold aT Iv.e;rw[hf.2.2,ht,hf.1];exact Int.le_refl _
    ·exfalso;unfold dY at hi;have:=of_decide_eq_true hi;rw[this] at hf;omega
 cases hi:dY x.i
 ·cases hb:sU out x.i.f with
  |none=>exact app
  |some b=>
   dsimp only
   split
   ·rename_i hc;exact(fin b hb).1 hi hc
   ·exact app
 ·cases hb:sU out x.i.f with
  |none=>exact nx
  |some b=>
   dsimp only
   split
   ·exact(fin b hb).2 hi
   ·exact nx
end Go.Via
