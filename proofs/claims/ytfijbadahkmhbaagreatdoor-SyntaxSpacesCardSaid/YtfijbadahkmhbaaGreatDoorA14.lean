/-
  Part 14 (chapter 43): lemmas, walks. Each theorem states its own conditions.
-/
import Derived.Test.YtfijbadahkmhbaaGreatDoorA04
import Derived.Test.YtfijbadahkmhbaaGreatDoorA07
import Derived.Test.YtfijbadahkmhbaaGreatDoorA10
import Derived.Test.YtfijbadahkmhbaaGreatDoorA11
import Derived.Test.YtfijbadahkmhbaaGreatDoorA12
import Derived.Test.YtfijbadahkmhbaaGreatDoorA13
set_option linter.unusedVariables false
set_option linter.unusedSimpArgs false
set_option maxRecDepth 20000
set_option maxHeartbeats 20000000
namespace Go.Via
open Go Go.RowKit
abbrev Stp:=Nat×Nat×Bs8
def stp3(s:Stp):List Value:=[.int .u8 (s.1:Nat),.int .u8 (s.2.1:Nat),.string (strU s.2.2)]
def stC(l:List Stp):List Value:=l.flatMap stp3
theorem stC_cons(s:Stp)(l:List Stp):stC (s::l)=stp3 s++stC l:=List.flatMap_cons
theorem stC_append(l m:List Stp):stC (l++m)=stC l++stC m:=List.flatMap_append
theorem stC_length:∀l:List Stp,(stC l).length=l.length*3
 |[]=>rfl
 |s::l=>by rw[stC_cons,List.length_append,stC_length l,List.length_cons];show 3+_=_;omega
theorem stC_get:∀{l:List Stp} {i:Nat} {s:Stp},l[i]? =some s→((stC l).drop (i*3)).take 3=stp3 s
 |[],i,s,h=>by simp at h
 |p::l,0,s,h=>by simp at h;subst h;rw[stC_cons];rfl
 |p::l,i+1,s,h=>by
  rw[stC_cons,List.drop_append,show(i+1)*3-(stp3 p).length=i*3 by show(i+1)*3-3=_;omega,List.drop_eq_nil_of_le (by show 3≤_;omega)]
  exact stC_get (by simpa using h)
theorem stC_ne{l:List Stp}(h:0<l.length):stC l≠[]:=by
 intro e
 have:=stC_length l
 rw[e] at this
 simp at this
 omega
def okS(s:Stp):Prop:=s.1<256∧s.2.1<256∧s.2.2.length≤45
abbrev Fm4:=Nat×Nat×Nat×Bs8
def leafT:List Fm4:=[(1,0,8,[]),(4,0,8,[]),(3,0,8,[]),(5,0,8,[])]
def fLeaf(o:Fm4):Prop:=(o.1=1∨o.1=3∨o.1=4∨o.1=5)∧o.2.1=0
def fTree(o:Fm4):Prop:=o.1≠1∧o.1≠2∧o.1≠3∧o.1≠4∧o.1≠5∧1≤o.2.1∧o.2.1≤3∧cntL (o.1:Nat)=(o.2.1:Nat)
instance(o:Fm4):Decidable (fLeaf o):=by unfold fLeaf;infer_instance
instance(o:Fm4):Decidable (fTree o):=by unfold fTree;infer_instance
def fOK(o:Fm4)(lv:Nat):Prop:=fLeaf o∨(2≤lv∧(o.1=2∨fTree o))
theorem fOK_pt{o:Fm4}{lv:Nat}(h:fOK o lv)(h2:o.1=2):2≤lv:=by
 rcases h with h|⟨h,_⟩
 ·have:=h.1;omega
 ·exact h
theorem frmT_ok{o:Fm4}{lv:Nat}(h:o∈frmT)(hl:2≤lv):fOK o lv:=by
 have:∀o∈frmT,fLeaf o∨o.1=2∨fTree o:=by decide
 rcases this o h with h|h
 ·exact .inl h
 ·exact .inr ⟨hl,h⟩
theorem leafT_ok{o:Fm4}{lv:Nat}(h:o∈leafT):fOK o lv:=by
 have:∀o∈leafT,fLeaf o:=by decide
 exact .inl (this o h)
def goodM(x:XT):Prop:=okX x∧qX x∧x.tiny=true
theorem okXs_all:∀{l:List XT},(∀y∈l,okX y)→okXs l
 |[],_=>by rw[okXs];trivial
 |x::l,h=>by rw[okXs];exact⟨h x (List.mem_cons_self ..),okXs_all fun y hy=>h y (List.mem_cons_of_mem _ hy)⟩
theorem tinies_all:∀{l:List XT},(∀y∈l,y.tiny=true)→XT.tinies l=true
 |[],_=>by rw[XT.tinies]
 |x::l,h=>by rw[XT.tinies,h x (List.mem_cons_self ..),tinies_all fun y hy=>h y (List.mem_cons_of_mem _ hy)];rfl
theorem bytes0:NumV.bytes (.q 0)≤20:=by decide+kernel
theorem goodM_node{op:Nat}{l:List XT}(hl:∀y∈l,goodM y)(hn:nodeE (.node op l)=0):goodM (.node op l):=by
 refine⟨?_,?_,?_⟩
 ·unfold XT.node at hn ⊢
  rw[okX];exact⟨hn,okXs_all fun y hy=>(hl y hy).1⟩
 ·unfold XT.node
  rw[qX];exact⟨⟨0,rfl⟩,qXs_all fun y hy=>(hl y hy).2.1⟩
 ·unfold XT.node
  rw[XT.tiny,tinies_all fun y hy=>(hl y hy).2.2,decide_eq_true bytes0];rfl
theorem tree_ok{o:Fm4}(h:fTree o){l:List XT}(hl:l.length=o.2.1):nodeE (.node o.1 l)=0:=by
 obtain⟨h1,h2,h3,h4,h5,h6,h7,h8⟩:=h
 have e1:(XT.node o.1 l).op=(o.1:Nat):=rfl
 have e2:(XT.node o.1 l).args=l:=rfl
 have e3:(XT.node o.1 l).name=[]:=rfl
 have e4:(XT.node o.1 l).num.isZ=true:=(by decide+kernel:NumV.isZ (.q 0)=true)
 unfold nodeE
 rw[e1,e2,e3,h8]
 rw[if_neg (by omega),if_neg (fun c=>by
 rcases c with c|⟨_,_,c⟩|⟨_,_,c⟩
 ·exact c (by omega)
 ·rw[e4] at c;cases c
 ·exact c rfl),if_neg (fun c=>by have:=c.1;omega),if_neg (fun c=>by have:=c.1;omega),if_neg (fun c=>by have:=c.1;omega),if_neg (fun c=>by rcases c with c|c<;>(have:=c.1;omega))]
theorem point_ok(p q:Rat):nodeE (.node 2 [.numd 1 p,.numd 1 q])=0:=by kernel_rfl
theorem num_ok(q:Rat):nodeE (.numd 1 q)=0:=by kernel_rfl
theorem goodM_num{q:Rat}(h:NumV.bytes (.q q)≤20):goodM (.numd 1 q):=by
 have hn:=num_ok q
 unfold XT.numd at hn ⊢
 refine⟨by rw[okX,okXs];exact⟨hn,trivial⟩,by rw[qX,qXs];exact⟨⟨q,rfl⟩,trivial⟩,by rw[XT.tiny,XT.tinies,decide_eq_true h];rfl⟩
theorem goodM_obj{q:Rat}(hi:idOK q=true)(h:NumV.bytes (.q q)≤20):goodM (.numd 3 q):=by
 have hn:nodeE (.numd 3 q)=0:=by
  have e1:(XT.numd 3 q).op=3:=rfl
  have e2:(XT.numd 3 q).args=[]:=rfl
  have e3:(XT.numd 3 q).name=[]:=rfl
  have e4:(XT.numd 3 q).num.isId=true:=hi
  unfold nodeE
  rw[e1,e2,e3,e4,if_neg (by decide),if_neg (by
 intro c
 rcases c with c|⟨_,c,_⟩|⟨_,_,c⟩
 ·exact c (by decide)
 ·exact c rfl
 ·exact c rfl),if_neg (fun c=>by cases c.1),if_neg (fun c=>by cases c.1),if_neg (fun c=>by cases c.2),if_neg (fun c=>by rcases c with c|c<;>cases c.1)]
 unfold XT.numd at hn ⊢
 refine⟨by rw[okX,okXs];exact⟨hn,trivial⟩,by rw[qX,qXs];exact⟨⟨q,rfl⟩,trivial⟩,by rw[XT.tiny,XT.tinies,decide_eq_true h];rfl⟩
theorem goodM_name{o:Nat}{n:Bs8}(h:o=4∧nameL n=true∨o=5∧zoneL n=true)(hl:n.length≤60):goodM (.named o n):=by
 have hn:nodeE (.named o n)=0:=by
  have e2:(XT.named o n).args=[]:=rfl
  have e3:(XT.named o n).name=n:=rfl
  have e1:(XT.named o n).op=(o:Nat):=rfl
  have e4:(XT.named o n).num.isZ=true:=(by decide+kernel:NumV.isZ (.q 0)=true)
  unfold nodeE
  rw[e1,e2,e3,e4]
  rcases h with⟨rfl,h⟩|⟨rfl,h⟩
  ·rw[h,if_neg (by decide),if_neg (by
 intro c
 rcases c with c|⟨_,_,c⟩|⟨c,_⟩
 ·exact c (by decide)
 ·cases c
 ·exact c rfl),if_neg (fun c=>by cases c.1),if_neg (fun c=>by cases c.1),if_neg (fun c=>by cases c.1),if_neg (fun c=>by
 rcases c with c|c
 ·cases c.2
 ·cases c.1)]
  ·rw[h,if_neg (by decide),if_neg (by
 intro c
 rcases c with c|⟨_,_,c⟩|⟨_,c,_⟩
 ·exact c (by decide)
 ·cases c
 ·exact c rfl),if_neg (fun c=>by cases c.1),if_neg (fun c=>by cases c.1),if_neg (fun c=>by cases c.1),if_neg (fun c=>by
 rcases c with c|c
 ·cases c.1
 ·cases c.2)]
 unfold XT.named at hn ⊢
 refine⟨by rw[okX,okXs];exact⟨hn,trivial⟩,by rw[qX,qXs];exact⟨⟨0,rfl⟩,trivial⟩,by rw[XT.tiny,XT.tinies,decide_eq_true bytes0,decide_eq_true hl];rfl⟩
theorem quo8{x y:Int}(m n:Nat)(hx:x=(m:Int))(hy:y=(n:Int))(h:m/n<256):IntKind.u8.wrap (x.tdiv y)=((m/n:Nat):Int):=by
 subst hx;subst hy;rw[←Int.ofNat_tdiv,IntKind.wrap_u8];generalize m/n=q at*;omega
def frQ(n:Nat):Rat:=Rat.divInt (((n%32:Nat):Int)-16) ((1+n/32:Nat):Int)
theorem frQ_bytes{n:Nat}(h:n<256):NumV.bytes (.q (frQ n))≤20:=by
 have:∀n<256,NumV.bytes (.q (frQ n))≤20:=by decide+kernel
 exact this n h
theorem obj_bytes{n:Nat}(h:n<256):NumV.bytes (.q (((1+n:Nat):Int):Rat))≤20∧idOK (((1+n:Nat):Int):Rat)=true:=by
 have:∀n<256,NumV.bytes (.q (((1+n:Nat):Int):Rat))≤20∧idOK (((1+n:Nat):Int):Rat)=true:=by decide+kernel
 exact this n h
def varT:List Bs8:=[[97],[98],[99],[99,97,114,95,50]]
def zonT:List Bs8:=[[110,111,114,116,104],[97,32,34,98,34],[90]]
theorem varT_ok{n:Bs8}(h:n∈varT):nameL n=true∧n.length≤60:=by
 have:∀n∈varT,nameL n=true∧n.length≤60:=by decide+kernel
 exact this n h
theorem zonT_ok{n:Bs8}(h:n∈zonT):zoneL n=true∧n.length≤60:=by
 have:∀n∈zonT,zoneL n=true∧n.length≤60:=by decide+kernel
 exact this n h
mutual
theorem chk_good:∀(x:XT) (lv n:Nat),okX x→lv+x.dep≤33→n+x.size≤256→chk x lv n=(0,n+x.size)
 | .mk o nm u l,lv,n,h,hd,hs=>by
   rw[okX] at h
   rw[XT.dep] at hd
   rw[XT.size] at hs ⊢
   rw[chk,if_neg (by omega),if_neg (by omega),if_neg (by rw[h.1];simp),chks_good l (lv+1) (n+1) h.2 (by omega) (by omega)]
   rw[Nat.add_assoc]
theorem chks_good:∀(l:List XT) (lv n:Nat),okXs l→lv+XT.deps l≤33→n+XT.sizes l≤256→chks l lv n=(0,n+XT.sizes l)
 |[],lv,n,_,_,_=>by rw[chks,XT.sizes];rfl
 |x::l,lv,n,h,hd,hs=>by
  rw[okXs] at h
  rw[XT.deps] at hd
  rw[XT.sizes] at hs ⊢
  rw[chks,chk_good x lv n h.1 (by omega) (by omega),if_neg (by simp),chks_good l lv _ h.2 (by omega) (by show n+x.size+_≤_;omega)]
  show(0,n+x.size+_)=_
  rw[Nat.add_assoc]
end
mutual
theorem tiny_fit:∀(x:XT),qX x→x.tiny=true→x.fit=true
 | .mk o nm u l,hq,ht=>by
   obtain⟨h1,h2,h3⟩:=XT.tiny_parts ht
   rw[qX] at hq
   obtain⟨⟨r,rfl⟩,hq2⟩:=hq
   have:=szQ_bytes h2
   rw[XT.fit,tinies_fits l hq2 h3,decide_eq_true (by omega:nm.length≤1000000)]
   have e:NumV.fit (.q r)=true:=decide_eq_true (by omega)
   rw[e];rfl
theorem tinies_fits:∀(l:List XT),qXs l→XT.tinies l=true→XT.fits l=true
 |[],_,_=>by rw[XT.fits]
 |x::l,hq,ht=>by
  rw[qXs] at hq
  rw[XT.tinies,Bool.and_eq_true] at ht
  rw[XT.fits,tiny_fit x hq.1 ht.1,tinies_fits l hq.2 ht.2];rfl
end
theorem RepX.raw{T:Tab}{op:Int}{nm:Bs8}{u:NumV}{b1 b2:Bool}{s1 s2:ByteArray}{l:List XT}{a:Option Addr}{cap:Nat}(hu:u.cells=[.bool b1,.string s1,.bool b2,.string s2])(h:RepL T l a)(hc:l.length≤cap):
 RepX T (.mk op nm u l) [.int .i64 op,.string (strU nm),.bool b1,.string s1,.bool b2,.string s2,.slice a l.length cap]:=by
 have:=RepX.mk (T:=T) (op:=op) (name:=nm) (num:=u) (args:=l) (a:=a) (cap:=cap) h hc
 unfold xcells at this
 rw[hu] at this
 exact this
def XA.finG{l:List XT}(z:XA l)(op:Int)(nm:Bs8){u:NumV}{b1 b2:Bool}{s1 s2:ByteArray}(hu:u.cells=[.bool b1,.string s1,.bool b2,.string s2]):XR (.mk op nm u l):=
 ⟨z.finT,op,strU nm,b1,s1,b2,s2,z.b.map fun g=>⟨g,0,none⟩,l.length,z.cap,z.finT_ok,RepX.raw hu z.finR z.hcap⟩
abbrev AG(g:Nat)(op:Int)(nm:Bs8)(b1:Bool)(s1:ByteArray)(b2:Bool)(s2:ByteArray){l:List XT}(z:XA l):Blk:=
 ⟨some g,30,[.int .i64 op,.string (strU nm),.bool b1,.string s1,.bool b2,.string s2,slv z.b 0 l.length z.cap],7,true⟩
theorem weak_fin{M:List Blk}{l:List XT}(z:XA l):Weak (gB z.T true::⟨z.b,30,z.cs,z.n,true⟩::M) [gB z.finT true]:=by
 unfold XA.finT
 cases hb:z.b with
 |none=>exact weak_picks [some 0] ⟨⟨_,rfl,Blk.le_refl _⟩,trivial⟩ rfl rfl
 |some h=>
  have hl:l≠[]:=fun e=>by have:=z.hb.2 e;rw[hb] at this;cases this
  have hne:z.cs≠[]:=fun e=>by
   have:=z.hlen
   rw[e] at this
   have h2:=List.length_pos_iff.2 hl
   simp at this
   omega
  exact Weak.trans (Weak.shut (i:=1) (j:=0) rfl rfl z.hT z.hs (noTy7 z.hlen hl) (.inr hne) rfl) (weak_picks [some 0] ⟨⟨_,rfl,Blk.le_refl _⟩,trivial⟩ rfl rfl)
structure MadeR(b:Option Nat)(cap n k lv:Nat) where
 x:XT
 z:XR x
 k':Nat
 rb:Option Nat
 off:Nat
 c:Nat
 h:goodM x∧k≤k'∧k'≤n∧x.size≤1+3*(k'-k)∧x.dep≤max lv 1∧(k'<n→rb=b∧off=3*k'∧c=cap-k')
structure MadeS(b:Option Nat)(cap n k lv cnt:Nat) where
 i:Nat
 l:List XT
 z:XA l
 k':Nat
 rb:Option Nat
 off:Nat
 c:Nat
 h:(∀y∈l,goodM y)∧l.length=i∧i≤cnt∧k≤k'∧k'≤n∧XT.sizes l≤i+3*(k'-k)∧XT.deps l≤max (lv-1) 1∧(k'<n→rb=b∧off=3*k'∧c=cap-k')
theorem sizes_snoc(l:List XT)(y:XT):XT.sizes (l++[y])=XT.sizes l+y.size:=by
 induction l with
 |nil=>rw[List.nil_append,XT.sizes,XT.sizes,XT.sizes];omega
 |cons x l ih=>rw[List.cons_append,XT.sizes,XT.sizes,ih];omega
theorem deps_snoc(l:List XT)(y:XT):XT.deps (l++[y])=max (XT.deps l) y.dep:=by
 induction l with
 |nil=>rw[List.nil_append,XT.deps,XT.deps,XT.deps];omega
 |cons x l ih=>rw[List.cons_append,XT.deps,XT.deps,ih];omega
def cutS(s:Stp):Stp:=(s.1,s.2.1,s.2.2.take (min s.2.2.length 45))
def limC(l:List Stp):List Stp:=l.map cutS
def limS(l:List Stp):List Stp:=limC (l.take 40)
theorem limC_length(l:List Stp):(limC l).length=l.length:=List.length_map ..
theorem lim_step{l:List Stp}{i:Nat}{s:Stp}(h:l[i]? =some s):stC (limC (l.take (i+1)))=stC (limC (l.take i))++stp3 (cutS s):=by
 rw[List.take_add_one,h]
 unfold limC
 rw[List.map_append,stC_append]
 show _++(stp3 (cutS s)++[])=_
 rw[List.append_nil]
theorem limS_ok{l:List Stp}(h:∀s∈l,s.1<256∧s.2.1<256):∀s∈limS l,okS s:=fun s hs=>by
 unfold limS limC at hs
 obtain⟨u,hu,rfl⟩:=List.mem_map.1 hs
 have:=h u (List.mem_of_mem_take hu)
 refine⟨this.1,this.2,?_⟩
 show(u.2.2.take _).length≤45
 rw[List.length_take];omega
theorem limS_len(l:List Stp):(limS l).length≤40:=by unfold limS;rw[limC_length,List.length_take];omega
def SOK(o:Fm4)(lv:Nat)(u:Bs8×Rat):Prop:=(o.2.1=0→goodM (.mk (o.1:Nat) u.1 (.q u.2) []))∧(o.2.1≠0→u=([],0)∧fTree o∧2≤lv)
theorem sok_leaf{o:Fm4}{lv:Nat}{u:Bs8×Rat}(h:fOK o lv)(h1:o.1=1∨o.1=3∨o.1=4∨o.1=5)(hg:goodM (.mk (o.1:Nat) u.1 (.q u.2) [])):SOK o lv u:=by
 refine⟨fun _=>hg,fun h0=>?_⟩
 rcases h with h|⟨_,h|h⟩
 ·exact absurd h.2 h0
 ·omega
 ·obtain⟨a,b,c,d,e,_⟩:=h;omega
theorem sok_tree{o:Fm4}{lv:Nat}(h:fOK o lv)(h1:o.1≠1)(h3:o.1≠3)(h4:o.1≠4)(h5:o.1≠5)(h2:o.1≠2):SOK o lv ([],0):=by
 rcases h with h|⟨hl,h|h⟩
 ·have:=h.1;omega
 ·exact absurd h h2
 ·exact⟨fun h0=>by have:=h.2.2.2.2.2.1;omega,fun _=>⟨rfl,h,hl⟩⟩
theorem sok_le{o:Fm4}{lv:Nat}{u:Bs8×Rat}(h:SOK o lv u):o.2.1≤3:=by
 by_cases h0:o.2.1=0
 ·omega
 ·exact(h.2 h0).2.1.2.2.2.2.2.2.1
abbrev NB7(op:Int)(nm:Bs8)(q:Rat)(a:Option Addr)(n c:Nat):List Value:=[.int .i64 op,.string (strU nm),.bool (decide (q.num<0)),.string (mag q.num.natAbs),.bool false,.string (dm q),.slice a n c]
theorem NB7_zero(op:Int)(nm:Bs8)(a:Option Addr)(n c:Nat):NB7 op nm 0 a n c=[.int .i64 op,.string (strU nm),.bool false,.string ⟨#[]⟩,.bool false,.string ⟨#[]⟩,.slice a n c]:=by
 obtain⟨e1,e2,e3⟩:=q0_parts
 unfold NB7
 rw[e1,e2,e3]
theorem made_fin{b:Option Nat}{cap n k lv:Nat}{o:Fm4}{u:Bs8×Rat}(hu:SOK o lv u)(hlv:1≤lv)(hk:k+1≤n){i:Nat}{l:List XT}{k':Nat}{rb:Option Nat}{off c:Nat}
 (h:(∀y∈l,goodM y)∧l.length=i∧i≤o.2.1∧k+1≤k'∧k'≤n∧XT.sizes l≤i+3*(k'-(k+1))∧XT.deps l≤max (lv-1) 1∧(k'<n→rb=b∧off=3*k'∧c=cap-k'))(hi:¬i<o.2.1):
 goodM (.mk (o.1:Nat) u.1 (.q u.2) l)∧k≤k'∧k'≤n∧(XT.mk (o.1:Nat) u.1 (.q u.2) l).size≤1+3*(k'-k)∧(XT.mk (o.1:Nat) u.1 (.q u.2) l).dep≤max lv 1∧(k'<n→rb=b∧off=3*k'∧c=cap-k'):=by
 obtain⟨h1,h2,h3,h4,h5,h6,h7,h8⟩:=h
 rw[XT.size,XT.dep]
 by_cases h0:o.2.1=0
 ·have:l=[]:=List.eq_nil_of_length_eq_zero (by omega)
  subst this
  refine⟨hu.1 h0,by omega,h5,by rw[XT.sizes];omega,by rw[XT.deps];omega,h8⟩
 ·obtain⟨e,ht,hl⟩:=hu.2 h0
  subst e
  have hc:=ht.2.2.2.2.2.2.1
  exact⟨goodM_node h1 (tree_ok ht (by omega)),by omega,h5,by omega,by omega,h8⟩
theorem made_step{b:Option Nat}{cap n k lv cnt:Nat}{i:Nat}{l:List XT}{k':Nat}{rb:Option Nat}{off c:Nat}(hl2:2≤lv)
 (h:(∀y∈l,goodM y)∧l.length=i∧i≤cnt∧k≤k'∧k'≤n∧XT.sizes l≤i+3*(k'-k)∧XT.deps l≤max (lv-1) 1∧(k'<n→rb=b∧off=3*k'∧c=cap-k'))(hi:i<cnt)(r:MadeR b cap n k' (lv-1)):
 (∀y∈l++[r.x],goodM y)∧(l++[r.x]).length=i+1∧i+1≤cnt∧k≤r.k'∧r.k'≤n∧XT.sizes (l++[r.x])≤i+1+3*(r.k'-k)∧XT.deps (l++[r.x])≤max (lv-1) 1∧(r.k'<n→r.rb=b∧r.off=3*r.k'∧r.c=cap-r.k'):=by
 obtain⟨h1,h2,h3,h4,h5,h6,h7,h8⟩:=h
 obtain⟨r1,r2,r3,r4,r5,r6⟩:=r.h
 refine⟨fun y hy=>?_,by simp;omega,hi,by omega,r3,by rw[sizes_snoc];omega,by rw[deps_snoc];omega,r6⟩
 rcases List.mem_append.1 hy with hy|hy
 ·exact h1 y hy
 ·rw[List.mem_singleton.1 hy];exact r1
theorem weak_addG{s6 s8:Blk}{h0 h1 h2:Option Nat}{e0 e1 e2 n0 n1 n2:Nat}{c0 c1 c2:List Value}{g3:Nat}{op:Int}{nm:Bs8}{b1 b2:Bool}{t1 t2:ByteArray}{l:List XT}{x:XT}(z:XA l)(u:XR x)(r:AR (l.length+1) 7):
 Weak [⟨h0,e0,c0,n0,false⟩,⟨h1,e1,c1,n1,true⟩,⟨h2,e2,c2,n2,true⟩,⟨some g3,30,[.int .i64 op,.string (strU nm),.bool b1,.string t1,.bool b2,.string t2,slv (some r.g) 0 (l.length+1) r.cap],7,true⟩,gB z.T true,⟨some r.g,30,z.cs++u.cs,r.n,true⟩,s6,gB u.T true,s8]
  [⟨h0,e0,c0,n0,false⟩,⟨h1,e1,c1,n1,true⟩,⟨h2,e2,c2,n2,true⟩,AG g3 op nm b1 t1 b2 t2 (z.add u r),gB (z.add u r).T true,⟨(z.add u r).b,30,(z.add u r).cs,(z.add u r).n,true⟩]:=
 Weak.trans (Weak.mergeG (i:=7) (j:=4) rfl rfl u.hT z.hT rfl rfl)
  (weak_picks [some 0,some 1,some 2,some 3,some 4,some 5] ⟨⟨_,rfl,Blk.le_refl _⟩,⟨_,rfl,Blk.le_refl _⟩,⟨_,rfl,Blk.le_refl _⟩,⟨_,rfl,le_same (by
 show(⟨some g3,30,[.int .i64 op,.string (strU nm),.bool b1,.string t1,.bool b2,.string t2,slv (some r.g) 0 (l++[x]).length r.cap],7,true⟩:Blk)=_
 rw[List.length_append];rfl)⟩,⟨_,rfl,Blk.le_refl _⟩,⟨_,rfl,Blk.le_refl _⟩,trivial⟩ rfl rfl)
theorem good_a:goodM aX:=goodM_name (.inl ⟨rfl,by decide+kernel⟩) (by decide)
theorem point_good{p q:Rat}(hp:NumV.bytes (.q p)≤20)(hq:NumV.bytes (.q q)≤20):goodM (.node 2 [.numd 1 p,.numd 1 q]):=goodM_node (fun y hy=>by
 rcases List.mem_cons.1 hy with rfl|hy
 ·exact goodM_num hp
 ·rw[List.mem_singleton.1 hy];exact goodM_num hq) (point_ok p q)
theorem weak_pt2{s0 s1 s2 s3 s4:Blk}{g4:Nat}(p q:Rat):Weak [s0,s1,s2,s3,s4,⟨some g4,30,(XR.num p 1).cs++(XR.num q 1).cs,14,true⟩] [gB ((XR.num p 1).node2 2 (XR.num q 1) g4).T true]:=by
 have e:((XR.num p 1).node2 2 (XR.num q 1) g4).T=[(g4,(XR.num p 1).cs++(XR.num q 1).cs)]:=rfl
 rw[e]
 exact Weak.trans (Weak.newG _) (Weak.trans (Weak.shut (i:=5) (j:=6) rfl rfl rfl (by rw[List.all_append,XR.cs_simple,XR.cs_simple];rfl) (noTy_len (by show 5≤14;decide)) (.inl (by decide)) rfl)
 (weak_picks [some 6] ⟨⟨_,rfl,Blk.le_refl _⟩,trivial⟩ rfl rfl))
end Go.Via
namespace Go.Proofs.YtfijbadahkmhbaaGreatDoor
open Go Go.RowKit Go.Via
def MadC(lv:Nat):Prop:=∀(b:Option Nat) (cap nn:Nat) (l:List Stp) (k:Nat) (rb:Option Nat) (off c:Nat),1≤lv→lv≤1000→k≤l.length→l.length≤cap→l.length≤1000000→(k<l.length→rb=b∧off=3*k∧c=cap-k)→(∀s∈l,okS s)→
 ECall Tryz.prog 65 [⟨b,92,stC l,nn,false⟩] [slv rb off (l.length-k) c,.int .i64 (lv:Nat)] (MadeR b cap l.length k lv) (fun r=> .tuple #[r.z.v,slv r.rb r.off (l.length-r.k') r.c]) (fun r=>[gB r.z.T true])
end Go.Proofs.YtfijbadahkmhbaaGreatDoor
namespace Go.Proofs.YtfijbadahkmhbaaGreatDoor
open Go Go.RowKit Go.Via Go.ChangeShapes Go.WideShapes
theorem has_blkE{W:World}{r:Reach}{base:Nat}{a:Addr}{e n:Nat}(e0:TypeId)(he0:e0<mapMark)(h:W.has Tryz.prog r base a e n):∃(g:Nat) (pre:List Value) (N:Nat),a=⟨g,pre.length,none⟩∧BlkAt (Bs.of W) W ⟨some g,e0,pre++[],N,false⟩ g:=by
 obtain⟨_,hsp,row,cells,hsh,hl⟩:=h
 obtain⟨g,off,spot⟩:=a
 simp only at hsp hsh hl
 subst hsp
 unfold World.shape? at hsh
 split at hsh
 ·rename_i cur elem fr heq
  cases hsh
  have h1:=liesAt_le hl
  have h2:off≤cur.size:=Nat.le_trans h1 (Nat.div_mul_le_self _ _)
  have hpl:(cur.toList.take off).length=off:=by simp;omega
  refine⟨g,cur.toList.take off,cur.size,by rw[hpl],.inl ⟨cur,⟨_,_,heq,(fun h=>by cases h),he0⟩,rfl,?_⟩,fun h=>by cases h⟩
  show cur.toList.take (cur.toList.take off++[]).length=cur.toList.take off++[]
  rw[List.append_nil,hpl]
 ·cases hsh
section
variable{H:Type}{enc:TypeId×Value→H}{w:World}
theorem openRow{α:Type}(a0:α){T e k:Nat}{r:Reach}{b0:Nat}{v:Value}{d:DataW H}{ps:List MemPlace}{cells:α→List Value}{ok:α→Prop}(hT:Tryz.prog.underlying T=some (.slice e))(hce:Tryz.prog.cellsOf e=k)(hk:0<k)(he:e<mapMark)(hlen:∀x,(cells x).length=k)
 (ho:∀(fuel:Nat) (cs:List Value) (x:DataW H×List MemPlace),DataW.trod enc Tryz.prog w 0 (fun _=>true) true fuel e cs=some x→wOK e x.1→∃y,cs=cells y∧ok y)
 (hval:Value.okWide Tryz.prog w r b0 T v)(hd:DataW.Trod enc Tryz.prog w 0 (fun _=>true) true T v d ps)(hw:wOK T d):
 ∃(l:List α) (b:Option Nat) (pre:List Value) (N cap:Nat),v=slv b pre.length l.length cap∧l.length≤cap∧(∀x∈l,ok x)∧(∀g,b=some g→BlkAt (Bs.of w) w ⟨b,e,pre++l.flatMap cells,N,false⟩ g)∧(b=none→pre++l.flatMap cells=[]∧N=0):=by
 have hval2:Cell.ok Tryz.prog w r b0 T v:=by
  unfold Value.okWide at hval
  rw[hT] at hval
  unfold Cell.okWide at hval
  rw[hT] at hval
  exact hval
 obtain⟨a0',len0,cap0,rfl⟩:=okWide_slice hT hval
 obtain⟨fuel,h⟩:=hd
 rcases DataW.trod_slice hT h with⟨h1,_⟩|⟨a,len,cap,elems,rest,m,hm,h1,h2,_,hlc,_,hel,hx,_,_⟩
 ·have h1':Value.slice a0' len0 cap0= .slice none 0 0:=List.head_eq_of_cons_eq h1
  exact⟨[],none,[],0,0,h1',Nat.le_refl _,(fun x hx=>by cases hx),(fun g hg=>by cases hg),fun _=>⟨rfl,rfl⟩⟩
 ·have h1':Value.slice a0' len0 cap0= .slice (some a) len cap:=List.head_eq_of_cons_eq h1
  cases h1'
  have h2':=(Prod.ext_iff.1 h2).1
  dsimp only at h2'
  rw[h2'] at hw
  have hwe:∀d∈elems.map (·.1),wOK e d:=by
   unfold wOK at hw
   rw[DataW.weights,hT] at hw
   simp only[List.all_cons,List.all_append,Bool.and_eq_true] at hw
   exact wAll hw.2.1
  rw[hce] at hx
  obtain⟨F,hF⟩:=choose_n (α:=α) a0 (n:=len0) (p:=fun i s=>w.cells? 0 (a.add (i*k)) k=some (cells s)∧ok s) (fun i hi=>by
 obtain⟨y,hy⟩:∃y,elems[i]? =some y:=⟨_,List.getElem?_eq_getElem (by omega)⟩
 have hxi:=hx i hi
 rw[hy] at hxi
 obtain⟨row,r1,r2⟩:=Option.bind_eq_some_iff.1 hxi
 obtain⟨s,e1,e2⟩:=ho _ _ _ r2 (hwe y.1 (List.mem_map.2 ⟨y,List.mem_of_getElem? hy,rfl⟩))
 exact⟨s,by rw[r1,e1],e2⟩)
  have hlenF:((List.range len0).map F).length=len0:=by simp
  have hok:∀x∈(List.range len0).map F,ok x:=fun x hx=>by
   obtain⟨i,hi,rfl⟩:=List.mem_map.1 hx
   exact(hF i (List.mem_range.1 hi)).2
  by_cases h0:len0=0
  ·subst h0
   unfold Cell.ok at hval2
   rw[hT] at hval2
   obtain⟨g,pre,N,rfl,hB⟩:=has_blkE e he hval2.2.2
   exact⟨[],some g,pre,N,cap0,rfl,Nat.zero_le _,(fun x hx=>by cases hx),(fun g' hg'=>by cases hg';exact hB),fun h=>by cases h⟩
  ·have hSB:((List.range len0).map F).flatMap cells=(List.range len0).flatMap fun i=>cells (F i):=by rw[List.flatMap_map]
   have hne:((List.range len0).map F).flatMap cells≠[]:=fun e1=>by
    have h5:=congrArg List.length e1
    rw[hSB,flat_len (k:=k) fun i _=>hlen (F i)] at h5
    have h6:0<len0*k:=Nat.mul_pos (by omega) hk
    replace h5:len0*k=0:=h5
    omega
   obtain⟨g,pre,N,rfl,hB⟩:=blk_flat (w:=w) (a:=a) e he hne (by
 rw[hSB]
 exact cells_flat (k:=k) (fun i hi=>(hF i hi).1) (fun i hi=>hlen (F i)) hk)
   exact⟨(List.range len0).map F,some g,pre,N,cap0,by rw[hlenF];rfl,by rw[hlenF];exact hlc,hok,(fun g' hg'=>by cases hg';exact hB),fun h=>by cases h⟩
theorem ce5:Tryz.prog.cellsOf 5=1:=by kernel_rfl
theorem ce92:Tryz.prog.cellsOf 92=3:=by kernel_rfl
theorem w92{a b c:DataW H}(h:wOK 92 (.agg [a,b,c])):wOK 9 c:=by
 simp[wOK,DataW.weights,DataW.weightsEach,Tryz.underlying92] at h ⊢
 exact h.2.2
def okSt(s:Stp):Prop:=s.1<256∧s.2.1<256∧s.2.2.length≤281474976710656
theorem oStp{fuel:Nat}{cs:List Value}{x:DataW H×List MemPlace}(h:DataW.trod enc Tryz.prog w 0 (fun _=>true) true fuel 92 cs=some x)(hw:wOK 92 x.1):∃s:Stp,cs=stp3 s∧okSt s:=by
 obtain⟨xs,n,_,rfl,hl,hlen,hf⟩:=DataW.trod_struct Tryz.underlying92 h
 rw[ce92] at hl
 match cs,hl,xs,hlen with
 |[c0,c1,c2],_,[y0,y1,y2],_=>
  have f0:DataW.trod enc Tryz.prog w 0 (fun _=>true) true n 5 ((([c0,c1,c2]:List Value).drop 0).take (Tryz.prog.cellsOf 5))=some y0:=hf 0 _ rfl
  have f1:DataW.trod enc Tryz.prog w 0 (fun _=>true) true n 5 ((([c0,c1,c2]:List Value).drop 1).take (Tryz.prog.cellsOf 5))=some y1:=hf 1 _ rfl
  have f2:DataW.trod enc Tryz.prog w 0 (fun _=>true) true n 9 ((([c0,c1,c2]:List Value).drop 2).take (Tryz.prog.cellsOf 9))=some y2:=hf 2 _ rfl
  rw[ce5] at f0 f1;rw[ce9] at f2
  obtain⟨n0,e0,_,k0⟩:=DataW.trod_int Tryz.underlying5 f0
  obtain⟨n1,e1,_,k1⟩:=DataW.trod_int Tryz.underlying5 f1
  obtain⟨s,e2,q2,_⟩:=DataW.trod_string Tryz.underlying9 f2
  have hw2:=w92 hw
  dsimp only at hw2
  rw[q2] at hw2
  have hs:=w9 hw2
  simp only[Lit.wf,Bool.and_eq_true,decide_eq_true_eq] at k0 k1
  have h1:IntKind.u8.min=0:=rfl
  have h2:IntKind.u8.max=255:=rfl
  obtain⟨m0,rfl⟩:∃m:Nat,n0=(m:Nat):=⟨n0.toNat,by omega⟩
  obtain⟨m1,rfl⟩:∃m:Nat,n1=(m:Nat):=⟨n1.toNat,by omega⟩
  simp at e0 e1 e2
  refine⟨(m0,m1,s.data.toList),?_,by show m0<256;omega,by show m1<256;omega,by show s.data.toList.length≤_;omega⟩
  show _=[Value.int .u8 (m0:Nat),Value.int .u8 (m1:Nat),Value.string (strU s.data.toList)]
  rw[e0,e1,e2,←str_strU]
theorem openN{r:Reach}{b0:Nat}{v:Value}{d:DataW H}{ps:List MemPlace}(hval:Value.okWide Tryz.prog w r b0 50 v)(hd:DataW.Trod enc Tryz.prog w 0 (fun _=>true) true 50 v d ps)(hw:wOK 50 d):
 ∃(l:List Stp) (b:Option Nat) (pre:List Value) (N cap:Nat),v=slv b pre.length l.length cap∧l.length≤cap∧(∀x∈l,okSt x)∧(∀g,b=some g→BlkAt (Bs.of w) w ⟨b,92,pre++stC l,N,false⟩ g)∧(b=none→pre++stC l=[]∧N=0):=
 openRow (cells:=stp3) (0,0,[]) Tryz.underlying50 ce92 (by decide) (by decide) (fun _=>rfl) (fun fuel cs x h hw=>oStp h hw) hval hd hw
end
theorem blk_row{W:World}{b:Option Nat}{e:Nat}(he:e<mapMark){cs:List Value}{N:Nat}(h1:∀g,b=some g→BlkAt (Bs.of W) W ⟨b,e,cs,N,false⟩ g)(h2:b=none→cs=[]∧N=0):BlkIn W ⟨b,e,cs,N,false⟩:=
 ⟨h1,fun hn=>⟨(h2 hn).1,(h2 hn).2,fun T _ h=>absurd (h▸he) (gE_ge T)⟩⟩
end Go.Proofs.YtfijbadahkmhbaaGreatDoor
namespace Go.Via
open Go Go.RowKit
def qsn(c:UInt8)(q:Bool):Bool:=if c=34 then !q else q
def qsO:Bool→Bs8→Bool
 |q,[]=>q
 |q,c::l=>qsO (qsn c q) l
def sprC(g:Bs8)(c:UInt8)(q:Bool):Bs8:=if c=32∧q=false then g else[c]
def spr(g:Bs8):Bool→Bs8→Bs8
 |_,[]=>[]
 |q,c::l=>sprC g c (qsn c q)++spr g (qsn c q) l
theorem qsO_snoc(c:UInt8):∀(l:Bs8) (q:Bool),qsO q (l++[c])=qsn c (qsO q l)
 |[],q=>rfl
 |d::l,q=>by rw[List.cons_append,qsO,qsO,qsO_snoc c l]
theorem spr_snoc(g:Bs8)(c:UInt8):∀(l:Bs8) (q:Bool),spr g q (l++[c])=spr g q l++sprC g c (qsn c (qsO q l))
 |[],q=>by rw[List.nil_append,spr,spr,spr,List.append_nil];rfl
 |d::l,q=>by rw[List.cons_append,spr,spr,qsO,spr_snoc g c l,List.append_assoc]
theorem spr_len{g:Bs8}(hg:g.length≤3):∀(l:Bs8) (q:Bool),(spr g q l).length≤3*l.length
 |[],q=>by rw[spr];exact Nat.zero_le _
 |c::l,q=>by
  have ih:=spr_len hg l (qsn c q)
  have h1:(sprC g c (qsn c q)).length≤3:=by
   unfold sprC
   split
   ·exact hg
   ·simp
  rw[spr,List.length_append,List.length_cons]
  omega
theorem spr_plain(g:Bs8)(q:Bool):∀{w l:Bs8},(∀c∈w,c≠32∧c≠34)→spr g q (w++l)=w++spr g q l
 |[],l,_=>rfl
 |c::w,l,h=>by
  obtain⟨h1,h2⟩:=h c (List.mem_cons_self ..)
  have e1:qsn c q=q:=if_neg h2
  have e2:sprC g c q=[c]:=if_neg fun e=>h1 e.1
  rw[List.cons_append,spr,e1,e2,spr_plain g q fun d hd=>h d (List.mem_cons_of_mem _ hd)]
  rfl
theorem spr_quo(g:Bs8):∀(b l:Bs8),spr g true (quoS b++l)=quoS b++spr g true l
 |[],l=>rfl
 |c::b,l=>by
  by_cases hc:c=34
  ·subst hc
   have e:quoS (34::b)=34::34::quoS b:=by unfold quoS;rw[List.flatMap_cons,if_pos rfl];rfl
   rw[e,List.cons_append,List.cons_append,spr,spr]
   have e1:qsn 34 true=false:=rfl
   have e2:qsn 34 false=true:=rfl
   rw[e1,e2,spr_quo g b l]
   rfl
  ·have e:quoS (c::b)=c::quoS b:=by unfold quoS;rw[List.flatMap_cons,if_neg hc];rfl
   have e1:qsn c true=true:=if_neg hc
   have e2:sprC g c true=[c]:=if_neg fun e=>by cases e.2
   rw[e,List.cons_append,spr,e1,e2,spr_quo g b l]
   rfl
theorem wch_no{c:UInt8}(h:wch c=true):c≠32∧c≠34:=⟨fun e=>(by subst e;cases h),fun e=>(by subst e;cases h)⟩
theorem dig_no{c:UInt8}(h:isDig c=true):c≠32∧c≠34:=⟨fun e=>(by subst e;cases h),fun e=>(by subst e;cases h)⟩
theorem spr_pcs{g:Bs8}:∀P:List Piece,sepP P→spr g false (render [32] P)=render g P
 |[],_=>rfl
 |a::P,h=>by
  have ih:=spr_pcs (g:=g) P h.tail
  have ha:=h.head
  rw[render_cons,render_cons]
  cases a with
  |sp=>
   show spr g false ([32]++render [32] P)=g++render g P
   rw[←ih]
   rfl
  |w b=>
   show spr g false (b++_)=b++_
   rw[spr_plain g false (fun c hc=>?_),ih]
   cases b with
   |nil=>cases ha
   |cons d b=>
    replace ha:(isLet d&&b.all wch)=true:=ha
    rw[Bool.and_eq_true] at ha
    rcases List.mem_cons.1 hc with rfl|hc
    ·exact wch_no (wch_let ha.1)
    ·exact wch_no (List.all_eq_true.1 ha.2 c hc)
  |n b=>
   show spr g false (b++_)=b++_
   rw[spr_plain g false (fun c hc=>?_),ih]
   obtain⟨d,_,hd,hw⟩:=ha
   rcases hw with rfl|⟨e,_,he,rfl⟩
   ·exact dig_no (hd c hc)
   ·rcases List.mem_append.1 hc with hc|hc
    ·exact dig_no (hd c hc)
    ·rcases List.mem_cons.1 hc with rfl|hc
     ·decide
     ·exact dig_no (he c hc)
  |y c=>
   have hall:∀d∈symL,d≠32∧d≠34:=by decide
   show spr g false ([c]++_)=[c]++_
   rw[spr_plain g false (fun d hd=>by rw[List.mem_singleton.1 hd];exact hall c (List.contains_iff_mem.1 ha)),ih]
  |q b=>
   show spr g false (34::(quoS b++[34])++_)=34::(quoS b++[34])++_
   rw[List.cons_append,List.append_assoc,spr]
   have e1:qsn 34 false=true:=rfl
   rw[e1,spr_quo]
   show[34]++(quoS b++spr g true (34::render [32] P))=_
   rw[spr]
   have e2:qsn 34 true=false:=rfl
   rw[e2,ih]
   simp[sprC]
def gapS(tab:Bool):Bs8:=if tab=true then[9] else[32,10,32]
theorem reads_spr{x:XT}(hx:okX x)(hq:qX x)(tab:Bool):Reads (spr (gapS tab) false (txt x 1)) x:=by
 have hs:=sep_pcs x 1 [] hx trivial (fun b h=>by cases h)
 rw[List.append_nil] at hs
 rw[txt_pcs,spr_pcs _ hs]
 refine reads_of (lex_txt hx ?_ ?_) hx hq
 ·unfold gapS;split<;>simp
 ·unfold gapS
  split<;>decide
theorem gapS_len(tab:Bool):(gapS tab).length≤3:=by unfold gapS;split<;>decide
theorem spr_take{s:Bs8}{i:Nat}{c:UInt8}(h:s[i]? =some c)(g:Bs8):spr g false (s.take (i+1))=spr g false (s.take i)++sprC g c (qsn c (qsO false (s.take i))):=by rw[strip_step h,spr_snoc]
theorem qsO_take{s:Bs8}{i:Nat}{c:UInt8}(h:s[i]? =some c):qsO false (s.take (i+1))=qsn c (qsO false (s.take i)):=by rw[strip_step h,qsO_snoc]
end Go.Via
namespace Go.Proofs.YtfijbadahkmhbaaGreatDoor
open Go Go.RowKit Go.Via
theorem c_rational_FromInts(m n:Int)(hm: -9223372036854775808≤m∧m≤9223372036854775807)(hn: -9223372036854775808≤n∧n≤9223372036854775807):PCall Tryz.prog 134 #[.int .i64 m,.int .i64 n] (.tuple #[Q (Rat.divInt m n),.int .i64 (if n=0 then 6 else 0)]):=by
 refine⟨by kernel_rfl,fun w=>?_⟩;refine cB2 13 Tryz.func134 (LRel.nil w) ?_;refine A2 ?_;refine r_alloc [_,_,_,_] 4 (fun g=>[⟨some g,27,_,4,true⟩]) rfl rfl z27 rfl rfl (fun _=>rfl) (fun g0=>?_);refine A6 ?_;refine Pc (c_integer_FromInt m hm.1 hm.2) ?_;refine A1 ?_;refine Pc (c_integer_FromInt n hn.1 hn.2) ?_;refine Pc (c_rational_Make m n (szI64 hm.1 hm.2) (szI64 hn.1 hn.2)) ?_;refine A2 ?_;refine So 0 0 [⟨some g0,27,_,4,true⟩] [_,_,_,_] ?_;refine A4 ?_;refine at_end2 rfl (res_cell 0 rfl rfl ti27 (vs:=[_,_,_,_]) rfl rfl (Nat.le_of_ble_eq_true rfl) rfl) (res_tmp rfl) (fun w hL=>⟨?_,hL.below⟩);exact rfl
theorem c_law_fraction(n:Nat)(hn:n<256):PCall Tryz.prog 101 #[.int .u8 (n:Nat)] (Q (frQ n)):=by
 refine⟨by kernel_rfl,fun w=>?_⟩;refine cB1 18 Tryz.func101 (LRel.nil w) ?_;refine A2 ?_;refine r_alloc [_,_,_,_] 4 (fun g=>[⟨some g,27,_,4,true⟩]) rfl rfl z27 rfl rfl (fun _=>rfl) (fun g0=>?_);refine A5 ?_;refine r_div (r:=((n%32:Nat):Int)) rfl rfl rfl rfl (by omega) (congrArg some (rem_n _ _ rfl rfl)) ?_;refine r_conv (r:=((n%32:Nat):Int)) u5 u3 rfl rfl rfl (wi (by omega) (by omega) (by omega)) ?_;refine Ar ((((n%32:Nat):Int)-16)) ?_;refine A1 ?_;refine r_div (r:=((n/32:Nat):Int)) rfl rfl rfl rfl (by omega) (congrArg some (quo8 n 32 rfl rfl (by omega))) ?_;refine r_conv (r:=((n/32:Nat):Int)) u5 u3 rfl rfl rfl (wi (by omega) (by omega) (by omega)) ?_;refine Ar (((1+n/32:Nat):Int)) ?_;refine Pc (c_rational_FromInts (((n%32:Nat):Int)-16) ((1+n/32:Nat):Int) (by omega) (by omega)) ?_;refine A3 ?_;refine r_alloc [_,_,_,_] 4 (fun g=>[_,⟨some g,27,_,4,true⟩]) rfl rfl z27 rfl rfl (fun _=>rfl) (fun g1=>?_);refine So 1 0 [_,⟨some g1,27,_,4,true⟩] [_,_,_,_] ?_;refine A5 ?_;refine Ld 1 0 [_,_,_,_] ti27 ?_;refine So 0 0 [⟨some g0,27,_,4,true⟩,_] [_,_,_,_] ?_;refine A3 ?_;refine at_end1 rfl (res_cell 0 rfl rfl ti27 (vs:=[_,_,_,_]) rfl rfl (Nat.le_of_ble_eq_true rfl) rfl) (fun w hL=>⟨?_,hL.below⟩);exact rfl
theorem c_law_limited(b:Option Nat)(e:Nat)(pre:List Value)(l:List Stp)(n cap:Nat)(hw:∀s∈l,s.2.2.length≤281474976710656):ECall Tryz.prog 34 [⟨b,e,pre++stC l,n,false⟩] [slv b pre.length l.length cap] {q:Option Nat×Nat×Nat // (limS l).length≤q.2.2∧q.2.2*3≤q.2.1} (fun q=>slv q.1.1 0 (limS l).length q.1.2.2) (fun q=>[⟨q.1.1,92,stC (limS l),q.1.2.1,true⟩]):=by
 refine⟨by kernel_rfl,fun B w hD hL0=>?_⟩;refine cB1 33 Tryz.func34 hL0 ?_;refine A17 ?_;refine El (ι:={q:Nat×Option Nat×Nat×Nat // q.1≤l.length∧q.1≤40∧q.1≤q.2.2.2∧q.2.2.2*3≤q.2.2.1}) (fun⟨⟨i,ob,oN,oc⟩,hi,hi40,h1o,h2o⟩=>([(0,slv b pre.length l.length cap),(3,slv ob 0 i oc),(4,.int .i64 (i:Nat))],[⟨b,e,pre++stC l,n,false⟩,⟨ob,92,stC (limC (l.take i)),oN,true⟩],l.length-i)) ⟨(0,none,0,0),Nat.zero_le _,Nat.zero_le _,Nat.le_refl _,Nat.le_refl _⟩ ?_ (hL:=(Weak.nilB _ (by decide)));rintro⟨⟨i,ob,oN,oc⟩,hi,hi40,h1o,h2o⟩;(try dsimp only);dsimp only at hi hi40 h1o h2o;refine A8 ?_;refine Rs 10 ?_ ?_<;>intro hb1
 ·have hlt:i<l.length:=(by have:=of_decide_eq_true hb1;omega);refine A5 ?_;refine Cd ?_ ?_<;>intro hb2
  ·have h40:i<40:=(by have:=of_decide_eq_true hb2;omega);obtain⟨s,hs⟩:∃s,l[i]? =some s:=⟨l[i],List.getElem?_eq_getElem hlt⟩;have hsl:=hw s (List.mem_of_getElem? hs);refine A8 ?_;refine r_indexAddr 0 (pre.length+i*3) u50 ti92 rfl rfl rfl rfl rfl (by omega) (by omega) (pre_ne (stC_ne (by omega))) (by show _+Int.toNat _*3=_;omega) ?_;refine r_load (v:= .agg #[.int .u8 (s.1:Nat),.int .u8 (s.2.1:Nat),.string (strU s.2.2)]) 0 (pre.length+i*3) _ rfl rfl rfl rfl ti92 (pre_get (stC_get hs) rfl) rfl (by decide) rfl ?_;refine r_alloc [_,_,_] 3 (fun g=>[_,_,⟨some g,92,_,3,true⟩]) rfl rfl z92 rfl rfl (fun _=>rfl) (fun g0=>?_);refine So 2 0 [_,_,⟨some g0,92,_,3,true⟩] [_,_,_] ?_;refine A9 ?_;refine r_know 24 (.int .i64 (s.2.2.length:Nat)) rfl (by rw[strU_size]) ?_;refine r_minI rfl rfl rfl rfl ?_;refine r_know 25 (.int .i64 (min s.2.2.length 45:Nat)) rfl (congrArg (Value.int .i64) (by omega)) ?_;refine r_sliceTo (s:=s.2.2) (j:=min s.2.2.length 45) u9 rfl rfl rfl rfl (by omega) rfl ?_;refine A1 ?_;refine So 2 2 [_,_,⟨some g0,92,_,3,true⟩] [_,_,_] ?_;refine A4 ?_;refine Ld 2 0 [_,_,_] ti92 ?_;refine r_buildSlice [(0,_)] (fun g=>[_,_,_,⟨some g,92,_,3,true⟩]) rfl rfl rfl (bs50_1) rfl (fun _=>rfl) (fun g1=>?_);refine q_append (b:=⟨ob,92,stC (limC (l.take i)),oN,true⟩) (len:=i) (cap:=oc) (n2:=1) 1 3 (fun ar=>[_,⟨some ar.g,92,stC (limC (l.take i))++stp3 (cutS s),ar.n,true⟩,_,_]) u50 el92 rfl rfl rfl rfl rfl rfl rfl rfl rfl rfl rfl rfl (by rw[stC_length,limC_length,List.length_take];omega) h1o h2o rfl (fun v hv=>simpleT_one (show(stp3 (cutS s)).all Value.simpleT=true from rfl) v hv) (by omega) (fun ar=>rfl) (fun ar=>?_);refine A6 ?_;refine Ar (((i+1:Nat):Int)) ?_;refine A3 ?_;exact Nl ⟨(i+1,some ar.g,ar.n,ar.cap),hlt,h40,ar.h,ar.hn⟩ (hL:=(weak_picks [some 0,some 1] ⟨⟨_,rfl,Blk.le_refl _⟩,⟨_,rfl,le_same (congrArg (fun c=>(⟨some ar.g,92,c,ar.n,true⟩:Blk)) (lim_step hs))⟩,trivial⟩ rfl rfl))
  ·have hge:40≤i:=(by have:=of_decide_eq_false hb2;omega);have hE:l.take i=l.take 40:=by rw[show i=40 by omega]
   refine A12 ?_;refine at_end1 rfl (res_tmp rfl) (fun w hL=>by
 have e1:limS l=limC (l.take i):=(by unfold limS;rw[hE]);have e2:(limS l).length=i:=(by rw[e1,limC_length,List.length_take];omega);exact⟨⟨(ob,oN,oc),by rw[e2];exact h1o,h2o⟩,congrArg (fun k=>Ending.returned (slv ob 0 k oc)) e2.symm,(show LRel _ [⟨ob,92,stC (limS l),oN,true⟩] _ from by rw[e1];exact hL.pk [some 1])⟩)
 ·have hge:l.length≤i:=(by have:=of_decide_eq_false hb1;omega);have hE:l.take i=l.take 40:=by rw[List.take_of_length_le hge,List.take_of_length_le (by omega)]
  refine A18 ?_;refine at_end1 rfl (res_tmp rfl) (fun w hL=>by
 have e1:limS l=limC (l.take i):=(by unfold limS;rw[hE]);have e2:(limS l).length=i:=(by rw[e1,limC_length,List.length_take];omega);exact⟨⟨(ob,oN,oc),by rw[e2];exact h1o,h2o⟩,congrArg (fun k=>Ending.returned (slv ob 0 k oc)) e2.symm,(show LRel _ [⟨ob,92,stC (limS l),oN,true⟩] _ from by rw[e1];exact hL.pk [some 1])⟩)
theorem c_law_forms:SCall Tryz.prog 86 [] [] Nat (fun g=>slv (some g) 0 30 30) (fun g=>[⟨some g,94,frmC frmT,120,true⟩]):=by
 refine⟨by kernel_rfl,fun w hL0=>?_⟩;refine cB0 32 Tryz.func86 hL0 ?_;refine A7 ?_;refine r_build [(0,_),(1,_),(2,_),(3,_)] rfl rfl rfl (bd94_4) ?_;refine r_build [(0,_),(1,_),(2,_),(3,_)] rfl rfl rfl (bd94_4) ?_;refine r_build [(0,_),(1,_),(2,_),(3,_)] rfl rfl rfl (bd94_4) ?_;refine r_build [(0,_),(1,_),(2,_),(3,_)] rfl rfl rfl (bd94_4) ?_;refine r_build [(0,_),(1,_),(2,_),(3,_)] rfl rfl rfl (bd94_4) ?_;refine r_build [(0,_),(1,_),(2,_),(3,_)] rfl rfl rfl (bd94_4) ?_;refine r_build [(0,_),(1,_),(2,_),(3,_)] rfl rfl rfl (bd94_4) ?_;refine r_build [(0,_),(1,_),(2,_),(3,_)] rfl rfl rfl (bd94_4) ?_;refine r_build [(0,_),(1,_),(2,_),(3,_)] rfl rfl rfl (bd94_4) ?_;refine r_build [(0,_),(1,_),(2,_),(3,_)] rfl rfl rfl (bd94_4) ?_;refine r_build [(0,_),(1,_),(2,_),(3,_)] rfl rfl rfl (bd94_4) ?_;refine r_build [(0,_),(1,_),(2,_),(3,_)] rfl rfl rfl (bd94_4) ?_;refine r_build [(0,_),(1,_),(2,_),(3,_)] rfl rfl rfl (bd94_4) ?_;refine r_build [(0,_),(1,_),(2,_),(3,_)] rfl rfl rfl (bd94_4) ?_;refine r_build [(0,_),(1,_),(2,_),(3,_)] rfl rfl rfl (bd94_4) ?_;refine r_build [(0,_),(1,_),(2,_),(3,_)] rfl rfl rfl (bd94_4) ?_;refine r_build [(0,_),(1,_),(2,_),(3,_)] rfl rfl rfl (bd94_4) ?_;refine r_build [(0,_),(1,_),(2,_),(3,_)] rfl rfl rfl (bd94_4) ?_;refine r_build [(0,_),(1,_),(2,_),(3,_)] rfl rfl rfl (bd94_4) ?_;refine r_build [(0,_),(1,_),(2,_),(3,_)] rfl rfl rfl (bd94_4) ?_;refine r_build [(0,_),(1,_),(2,_),(3,_)] rfl rfl rfl (bd94_4) ?_;refine r_build [(0,_),(1,_),(2,_),(3,_)] rfl rfl rfl (bd94_4) ?_;refine r_build [(0,_),(1,_),(2,_),(3,_)] rfl rfl rfl (bd94_4) ?_;refine r_build [(0,_),(1,_),(2,_),(3,_)] rfl rfl rfl (bd94_4) ?_;refine r_build [(0,_),(1,_),(2,_),(3,_)] rfl rfl rfl (bd94_4) ?_;refine r_build [(0,_),(1,_),(2,_),(3,_)] rfl rfl rfl (bd94_4) ?_;refine r_build [(0,_),(1,_),(2,_),(3,_)] rfl rfl rfl (bd94_4) ?_;refine r_build [(0,_),(1,_),(2,_),(3,_)] rfl rfl rfl (bd94_4) ?_;refine r_build [(0,_),(1,_),(2,_),(3,_)] rfl rfl rfl (bd94_4) ?_;refine r_build [(0,_),(1,_),(2,_),(3,_)] rfl rfl rfl (bd94_4) ?_;refine r_buildSlice [(0,_),(1,_),(2,_),(3,_),(4,_),(5,_),(6,_),(7,_),(8,_),(9,_),(10,_),(11,_),(12,_),(13,_),(14,_),(15,_),(16,_),(17,_),(18,_),(19,_),(20,_),(21,_),(22,_),(23,_),(24,_),(25,_),(26,_),(27,_),(28,_),(29,_)] (fun g=>[⟨some g,94,_,120,true⟩]) rfl rfl rfl (bs115_30) rfl (fun _=>rfl) (fun g0=>?_);refine A4 ?_;refine at_end1 rfl (res_tmp rfl) (fun w hL=>⟨g0,rfl,hL⟩)
theorem c_law_reserved(l:Bs8):PCall Tryz.prog 46 #[.string (strU l)] (.bool (mresL.contains l)):=by
 refine⟨by kernel_rfl,fun w=>?_⟩;refine cB1 33 Tryz.func46 (LRel.nil w) ?_;refine A11 ?_;refine Rs 7 ?_ ?_<;>intro hb0
 ·have k1:l=[118,97,108,117,101]:=by have hh:=hb0;rw[show(l=[118,97,108,117,101])=(((l==[118,97,108,117,101])=true)) from by simp,←strU_beq];exact hh
  refine A21 ?_;refine E1 fun w hL=>⟨?_,hL.below⟩;exact eB (mres_four (.inl k1)).symm
 ·have k1:l≠[118,97,108,117,101]:=by have hh:=hb0;rw[show(l≠[118,97,108,117,101])=(((l==[118,97,108,117,101])=false)) from by simp,←strU_beq];exact hh
  refine A4 ?_;refine Rs 11 ?_ ?_<;>intro hb1
  ·have k2:l=[111,98,106,101,99,116,115]:=by have hh:=hb1;rw[show(l=[111,98,106,101,99,116,115])=(((l==[111,98,106,101,99,116,115])=true)) from by simp,←strU_beq];exact hh
   refine A17 ?_;refine E1 fun w hL=>⟨?_,hL.below⟩;exact eB (mres_four (.inr (.inl k2))).symm
  ·have k2:l≠[111,98,106,101,99,116,115]:=by have hh:=hb1;rw[show(l≠[111,98,106,101,99,116,115])=(((l==[111,98,106,101,99,116,115])=false)) from by simp,←strU_beq];exact hh
   refine A4 ?_;refine Rs 15 ?_ ?_<;>intro hb2
   ·have k3:l=[112,97,105,114,115]:=by have hh:=hb2;rw[show(l=[112,97,105,114,115])=(((l==[112,97,105,114,115])=true)) from by simp,←strU_beq];exact hh
    refine A13 ?_;refine E1 fun w hL=>⟨?_,hL.below⟩;exact eB (mres_four (.inr (.inr (.inl k3)))).symm
   ·have k3:l≠[112,97,105,114,115]:=by have hh:=hb2;rw[show(l≠[112,97,105,114,115])=(((l==[112,97,105,114,115])=false)) from by simp,←strU_beq];exact hh
    refine A5 ?_;refine Cd ?_ ?_<;>intro hb3
    ·have k4:l=[119,104,101,114,101]:=by have hh:=hb3;rw[show(l=[119,104,101,114,101])=(((l==[119,104,101,114,101])=true)) from by simp,←strU_beq];exact hh
     refine A7 ?_;refine E1 fun w hL=>⟨?_,hL.below⟩;exact eB (mres_four (.inr (.inr (.inr k4)))).symm
    ·have k4:l≠[119,104,101,114,101]:=by have hh:=hb3;rw[show(l≠[119,104,101,114,101])=(((l==[119,104,101,114,101])=false)) from by simp,←strU_beq];exact hh
     refine A4 ?_;refine r_scall [] [] rfl rfl rfl c_law_forms trivial rfl (.inr fun _ b hb=>by rw[List.mem_singleton.1 hb]) (fun gf=>?_);refine A10 ?_;refine El (ι:={i:Nat // i≤30∧((frmT.take i).all fun o=>o.2.2.2 !=l)=true}) (fun⟨i,hi,hI⟩=>([(0,.string (strU l)),(3,slv (some gf) 0 30 30),(4,.int .i64 (i:Nat))],[⟨some gf,94,frmC frmT,120,true⟩],30-i)) ⟨0,Nat.zero_le _,rfl⟩ ?_;rintro⟨i,hi,hI⟩;(try dsimp only);refine A9 ?_;refine Cd ?_ ?_<;>intro hb5
     ·have hlt:i<30:=(by have:=of_decide_eq_true hb5;omega);obtain⟨o,ho⟩:∃o,frmT[i]? =some o:=⟨frmT[i]'(by show i<30;exact hlt),List.getElem?_eq_getElem _⟩;refine A8 ?_;refine Ix 0 (i*4) ?_;refine r_fieldAddr 0 (i*4) 3 rfl rfl rfl rfl rfl ti94 rfl rfl ?_;refine r_load (v:= .string (strU o.2.2.2)) 0 (i*4+3) _ rfl rfl rfl rfl ti9 (frmC_word ho) rfl (by decide) rfl ?_;refine A4 ?_;refine Cd ?_ ?_<;>intro hb6
      ·have hw:o.2.2.2=l:=by have hh:=hb6;rw[strU_beq] at hh;simpa using hh
       refine A11 ?_;refine E1 fun w hL=>⟨?_,hL.below⟩;exact eB (mres_yes ho hw).symm
      ·have hw:o.2.2.2≠l:=by have hh:=hb6;rw[strU_beq] at hh;simpa using hh
       refine A5 ?_;refine Ar (((i+1:Nat):Int)) ?_;refine A3 ?_;exact Nl ⟨i+1,hlt,by rw[List.take_add_one,ho,List.all_append,hI];simpa using hw⟩ (hL:=Weak.auto)
     ·have hge:i=30:=(by have:=of_decide_eq_false hb5;omega);subst hge;refine A11 ?_;refine E1 fun w hL=>⟨?_,hL.below⟩;exact eB (mres_no k1 k2 k3 k4 hI).symm
theorem c_law_isName(l:Bs8)(hl:l.length≤1000000):PCall Tryz.prog 14 #[.string (strU l)] (.bool (mnameL l)):=by
 refine⟨by kernel_rfl,fun w=>?_⟩;refine cB1 15 Tryz.func14 (LRel.nil w) ?_;refine A8 ?_;refine Pc (c_law_word l hl) ?_;refine A1 ?_;refine Rs 5 ?_ ?_<;>intro hb0
 ·have hw:wordL l=true:=hb0;refine A2 ?_;refine r_know 7 (.int .i64 (l.length:Nat)) rfl (by rw[strU_size]) ?_;refine A3 ?_;refine Rs 10 ?_ ?_<;>intro hb1
  ·have hl4:decide (l.length≤40)=true:=by have hh:=hb1;simp only[decide_eq_true_eq,decide_eq_false_iff_not] at hh ⊢;omega
   refine A1 ?_;refine Pc (c_law_reserved l) ?_;refine A6 ?_;refine E1 fun w hL=>⟨?_,hL.below⟩;exact eB (by unfold mnameL;rw[hw,hl4];rfl)
  ·have hl4:decide (l.length≤40)=false:=by have hh:=hb1;simp only[decide_eq_true_eq,decide_eq_false_iff_not] at hh ⊢;omega
   refine A8 ?_;refine E1 fun w hL=>⟨?_,hL.below⟩;exact eB (by unfold mnameL;rw[hw,hl4];rfl)
 ·have hw:wordL l=false:=hb0;refine A13 ?_;refine E1 fun w hL=>⟨?_,hL.below⟩;exact eB (by unfold mnameL;rw[hw];rfl)
end Go.Proofs.YtfijbadahkmhbaaGreatDoor
namespace Go.Via
open Go Go.RowKit
theorem at_seqX{P:Program}{B:Bs}{s:St}{Q:Exit→Act→World→Prop}{x y:Code}{nt:Nat}{X:Type}(T:X→List (Nat×Value))(LL:X→List Blk)
 (h1:At B s (x.wp P (Exit.then (fun a w=>∃z,Rel B ⟨nt,T z,LL z⟩ a w) Q)))(h2:∀z,At B ⟨nt,T z,LL z⟩ (y.wp P Q)):At B s ((Code.seq x y).wp P Q):=
 at_seq fun a w hr=>Code.wp_mono (fun e a w h=>by
 cases e with
 |normal=>obtain⟨z,h⟩:=h;exact h2 z a w h
 |_=>exact h) (h1 a w hr)
theorem at_intoX{B:Bs}{nt:Nat}{t:List (Nat×Value)}{L:List Blk}{X:Type}{T:X→List (Nat×Value)}{LL:X→List Blk}(z:X)(lk:LookAll t (T z))(hw:Weak L (LL z)):At B ⟨nt,t,L⟩ (fun a w=>∃z,Rel B ⟨nt,T z,LL z⟩ a w):=fun a w hr=>
 ⟨z,hr.df,hr.size,fun d v hd=>hr.tmp d v (lk.mem (d,v) (look_mem hd)),hw _ _ hr.mem⟩
section
variable{P:Program}{bl:List Nat}{ops:Array Oper}{K:St→Prop}{rest:List Oper}{nt:Nat}{t:List (Nat×Value)}{L:List Blk}{d:Nat}{ty:TypeId}{pos:String}{af:Array Edge}{g:Option (Nat×Bool)}{x y:Operand}
end
theorem ECall.toS{P:Program}{f:Nat}{L0:List Blk}{args:List Value}{X:Type}{res:X→Value}{new:X→List Blk}(h:ECall P f L0 args X res new):SCall P f L0 args X res new:=⟨h.1,fun w hL=>h.2 (Bs.of w) w rfl hL⟩
end Go.Via
namespace Go.Proofs.YtfijbadahkmhbaaGreatDoor
open Go Go.RowKit Go.Via
theorem c_law_made_step(lv:Nat)(H:∀j,j<lv→MadC j)(b:Option Nat)(cap nn:Nat)(l:List Stp)(k:Nat)(rb:Option Nat)(off c:Nat)(hlv:1≤lv)(hlv2:lv≤1000)(hk:k≤l.length)(hcap:l.length≤cap)(hll:l.length≤1000000)(hr:k<l.length→rb=b∧off=3*k∧c=cap-k)(hS:∀s∈l,okS s):ECall Tryz.prog 65 [⟨b,92,stC l,nn,false⟩] [slv rb off (l.length-k) c,.int .i64 (lv:Nat)] (MadeR b cap l.length k lv) (fun r=> .tuple #[r.z.v,slv r.rb r.off (l.length-r.k') r.c]) (fun r=>[gB r.z.T true]):=by
 refine⟨by kernel_rfl,fun B w hD hL0=>?_⟩;refine cB2 129 Tryz.func65 hL0 ?_;refine A2 ?_;refine r_alloc [_,_,_,_,_,_,_] 7 (fun g=>[_,⟨some g,30,_,7,true⟩]) rfl rfl z30 rfl rfl (fun _=>rfl) (fun g0=>?_);refine A11 ?_;refine Cd ?_ ?_<;>intro hb0
 ·have hz0:l.length-k=0:=by have:=eq_of_beq hb0;omega
  refine A2 ?_;refine r_build [(0,_),(1,_)] rfl rfl rfl (bd30_2) ?_;refine So 1 0 [_,⟨some g0,30,_,7,true⟩] [_,_,_,_,_,_,_] ?_;refine A5 ?_;refine at_end2 rfl (res_cell 1 rfl rfl ti30 (vs:=[_,_,_,_,_,_,_]) rfl rfl (Nat.le_of_ble_eq_true rfl) rfl) (res_tmp rfl) (fun w hL=>⟨⟨aX,XR.named [97] 4,k,none,0,0,⟨good_a,Nat.le_refl _,hk,Nat.le_add_right _ _,by show(1:Nat)+0≤_;omega,fun h=>absurd h (by omega)⟩⟩,by
 show _=Ending.returned (.tuple #[(XR.named [97] 4).v,slv none 0 (l.length-k) 0]);rw[hz0];rfl,(show Weak _ [gB [] true] from Weak.trans (B:=[]) (weak_picks [] trivial rfl rfl) (Weak.newG [])) _ _ hL⟩)
 ·have hkl:k<l.length:=by have:=ne_of_beq_false hb0;omega
  obtain⟨e1,e2,e3⟩:=hr hkl;subst e1;subst e2;subst e3;obtain⟨s,hs⟩:∃s,l[k]? =some s:=⟨l[k],List.getElem?_eq_getElem hkl⟩;obtain⟨hs1,hs2,hs3⟩:=hS s (List.mem_of_getElem? hs);refine A3 ?_;refine at_drawnEM (X:=Nat) (l':=[⟨_,_,_,_,_,_⟩,⟨_,_,_,_,_,_⟩,⟨_,_,_,_,_,_⟩]) (fun g1=>[(1,.int .i64 (lv:Nat)),(4,.pointer (some ⟨g0,0,none⟩)),(6,.pointer (some ⟨g1,0,none⟩)),(7,slv rb (if cap-k=1 then 3*k else 3*k+1*3) (l.length-(k+1)) (cap-k-1))]) (fun g1=>[⟨rb,92,stC l,nn,false⟩,ZB g0,⟨some g1,92,stp3 s,3,true⟩]) [0,3,4] 5 mixed (by kernel_rfl) rfl ?_ ?_
  ·refine A2 ?_;refine r_sliceMO (off':=if cap-k=1 then 3*k else 3*k+1*3) (n':=l.length-(k+1)) (c':=cap-k-1) 1 u50 ti92 rfl rfl rfl rfl (by omega) rfl (by omega) rfl ?_;refine A1 ?_;refine Tn2 1 5 ?_ ?_
   ·refine r_indexAddr 0 (3*k) u50 ti92 rfl rfl rfl rfl rfl (by omega) (by omega) (stC_ne (by omega)) (by show 3*k+Int.toNat _*3=_;rfl) ?_;refine A1 ?_;refine Tn2 2 5 ?_ ?_
    ·refine r_load (v:= .agg #[.int .u8 (s.1:Nat),.int .u8 (s.2.1:Nat),.string (strU s.2.2)]) 0 (3*k) _ rfl rfl rfl rfl ti92 (by rw[Nat.mul_comm];exact stC_get hs) rfl (by decide) rfl ?_;refine A1 ?_;refine Tn1 5 ?_
     ·refine r_alloc [_,_,_] 3 (fun g=>[_,_,⟨some g,92,_,3,true⟩]) rfl rfl z92 rfl rfl (fun _=>rfl) (fun g1=>?_);refine A1 ?_;refine Tn1 6 ?_
      ·refine So 2 0 [_,_,⟨some g1,92,_,3,true⟩] [_,_,_] ?_;refine A1 ?_;refine Tn1 7 ?_
       ·refine A2 ?_;refine tr_nil (by kernel_rfl) ?_;exact⟨g1,rfl,⟨rfl,rfl,rfl,rfl,trivial⟩,List.Perm.refl _⟩
    ·refine r_alloc [_,_,_] 3 (fun g=>[_,_,⟨some g,92,_,3,true⟩]) rfl rfl z92 rfl rfl (fun _=>rfl) (fun g1=>?_);refine A1 ?_;refine Tn1 2 ?_
     ·refine r_load (v:= .agg #[.int .u8 (s.1:Nat),.int .u8 (s.2.1:Nat),.string (strU s.2.2)]) 0 (3*k) _ rfl rfl rfl rfl ti92 (by rw[Nat.mul_comm];exact stC_get hs) rfl (by decide) rfl ?_;refine A1 ?_;refine Tn1 6 ?_
      ·refine So 2 0 [_,_,⟨some g1,92,_,3,true⟩] [_,_,_] ?_;refine A1 ?_;refine Tn1 7 ?_
       ·refine A2 ?_;refine tr_nil (by kernel_rfl) ?_;exact⟨g1,rfl,⟨rfl,rfl,rfl,rfl,trivial⟩,List.Perm.refl _⟩
   ·refine r_alloc [_,_,_] 3 (fun g=>[_,_,⟨some g,92,_,3,true⟩]) rfl rfl z92 rfl rfl (fun _=>rfl) (fun g1=>?_);refine A1 ?_;refine Tn1 1 ?_
    ·refine r_indexAddr 0 (3*k) u50 ti92 rfl rfl rfl rfl rfl (by omega) (by omega) (stC_ne (by omega)) (by show 3*k+Int.toNat _*3=_;rfl) ?_;refine A1 ?_;refine Tn1 2 ?_
     ·refine r_load (v:= .agg #[.int .u8 (s.1:Nat),.int .u8 (s.2.1:Nat),.string (strU s.2.2)]) 0 (3*k) _ rfl rfl rfl rfl ti92 (by rw[Nat.mul_comm];exact stC_get hs) rfl (by decide) rfl ?_;refine A1 ?_;refine Tn1 6 ?_
      ·refine So 2 0 [_,_,⟨some g1,92,_,3,true⟩] [_,_,_] ?_;refine A1 ?_;refine Tn1 7 ?_
       ·refine A2 ?_;refine tr_nil (by kernel_rfl) ?_;exact⟨g1,rfl,⟨rfl,rfl,rfl,rfl,trivial⟩,List.Perm.refl _⟩
  rintro g1;show At _ ⟨129,[(1,.int .i64 (lv:Nat)),(4,.pointer (some ⟨g0,0,none⟩)),(6,.pointer (some ⟨g1,0,none⟩)),(7,slv rb (if cap-k=1 then 3*k else 3*k+1*3) (l.length-(k+1)) (cap-k-1))],[⟨rb,92,stC l,nn,false⟩,ZB g0,⟨some g1,92,stp3 s,3,true⟩]⟩ _;refine A2 ?_
  obtain⟨off1,hoff⟩:∃o,o=(if cap-k=1 then 3*k else 3*k+1*3):=⟨_,rfl⟩
  rw[←hoff];refine at_regionM ?_;refine r_scall [] [] rfl rfl rfl c_law_forms trivial rfl (.inr fun _ b hb=>by rw[List.mem_singleton.1 hb]) (fun gf=>?_);refine A4 ?_;obtain⟨o,ho⟩:∃o,frmT[s.1%30]? =some o:=⟨_,List.getElem?_eq_getElem (by show _<30;omega)⟩;refine A4 ?_;refine r_conv (r:=((s.1:Nat):Int)) u5 u3 rfl rfl rfl (wi (by omega) (by omega) (by omega)) ?_;refine A2 ?_;refine r_div (r:=((s.1%30:Nat):Int)) rfl rfl rfl rfl (by decide) (congrArg some (rem_n _ 30 rfl rfl)) ?_;refine Ix 3 (s.1%30*4) ?_;refine r_load (v:= .agg #[.int .i64 (o.1:Nat),.int .i64 (o.2.1:Nat),.int .i64 (o.2.2.1:Nat),.string (strU o.2.2.2)]) 3 (s.1%30*4) _ rfl rfl rfl rfl ti94 (frmC_get ho) rfl (by decide) rfl ?_;refine r_alloc [_,_,_,_] 4 (fun g=>[_,_,_,_,⟨some g,94,_,4,true⟩]) rfl rfl z94 rfl rfl (fun _=>rfl) (fun g2=>?_);refine So 4 0 [_,_,_,_,⟨some g2,94,_,4,true⟩] [_,_,_,_] ?_;refine A2 ?_;refine at_seqX (nt:=129) (X:={o:Fm4 // fOK o lv}) (fun⟨o,hoK⟩=>[(1,.int .i64 (lv:Nat)),(4,.pointer (some ⟨g0,0,none⟩)),(6,.pointer (some ⟨g1,0,none⟩)),(7,slv rb off1 (l.length-(k+1)) (cap-k-1)),(9,.pointer (some ⟨g2,0,none⟩))]) (fun⟨o,hoK⟩=>[⟨rb,92,stC l,nn,false⟩,ZB g0,⟨some g1,92,stp3 s,3,true⟩,⟨some g2,94,frm4 o,4,true⟩]) ?_ ?_
  ·refine A6 ?_;refine Cd ?_ ?_<;>intro hb1
   ·have hl1:lv≤1:=(by have:=of_decide_eq_true hb1;omega);obtain⟨o1,ho1⟩:∃o,leafT[s.1%4]? =some o:=⟨_,List.getElem?_eq_getElem (by show _<4;omega)⟩;refine A1 ?_;refine r_build [(0,_),(1,_),(2,_),(3,_)] rfl rfl rfl (bd94_4) ?_;refine r_build [(0,_),(1,_),(2,_),(3,_)] rfl rfl rfl (bd94_4) ?_;refine r_build [(0,_),(1,_),(2,_),(3,_)] rfl rfl rfl (bd94_4) ?_;refine r_build [(0,_),(1,_),(2,_),(3,_)] rfl rfl rfl (bd94_4) ?_;refine r_buildSlice [(0,_),(1,_),(2,_),(3,_)] (fun g=>[_,_,_,_,_,⟨some g,94,_,16,true⟩]) rfl rfl rfl (bs115_4) rfl (fun _=>rfl) (fun g3=>?_);refine A2 ?_;refine r_div (r:=((s.1%4:Nat):Int)) rfl rfl rfl rfl (by decide) (congrArg some (rem_n _ 4 rfl rfl)) ?_;refine Ix 5 (s.1%4*4) ?_;refine r_load (v:= .agg #[.int .i64 (o1.1:Nat),.int .i64 (o1.2.1:Nat),.int .i64 (o1.2.2.1:Nat),.string (strU o1.2.2.2)]) 5 (s.1%4*4) _ rfl rfl rfl rfl ti94 (frmC_get (l:=leafT) ho1) rfl (by decide) rfl ?_;refine So 4 0 [_,_,_,_,⟨some g2,94,_,4,true⟩,_] [_,_,_,_] ?_;refine A2 ?_;exact at_intoX ⟨o1,leafT_ok (List.mem_of_getElem? ho1)⟩ ⟨rfl,rfl,rfl,rfl,rfl,trivial⟩ (weak_pk [some 0,some 1,some 2,some 4])
   ·have hl2:2≤lv:=(by have:=of_decide_eq_false hb1;omega);refine A2 ?_;exact at_intoX ⟨o,frmT_ok (List.mem_of_getElem? ho) hl2⟩ ⟨rfl,rfl,rfl,rfl,rfl,trivial⟩ (weak_pk [some 0,some 1,some 2,some 4])
  rintro⟨o,hoK⟩;show At _ ⟨129,[(1,.int .i64 (lv:Nat)),(4,.pointer (some ⟨g0,0,none⟩)),(6,.pointer (some ⟨g1,0,none⟩)),(7,slv rb off1 (l.length-(k+1)) (cap-k-1)),(9,.pointer (some ⟨g2,0,none⟩))],[⟨rb,92,stC l,nn,false⟩,ZB g0,⟨some g1,92,stp3 s,3,true⟩,⟨some g2,94,frm4 o,4,true⟩]⟩ _;refine A4 ?_;refine r_build [(0,_)] rfl rfl rfl (bd30_1) ?_;refine r_alloc [_,_,_,_,_,_,_] 7 (fun g=>[_,_,_,_,⟨some g,30,_,7,true⟩]) rfl rfl z30 rfl rfl (fun _=>rfl) (fun g3=>?_);refine So 4 0 [_,_,_,_,⟨some g3,30,_,7,true⟩] [_,_,_,_,_,_,_] ?_;refine A2 ?_;refine at_seqX (nt:=129) (X:={u:Bs8×Rat // SOK o lv u}) (fun⟨u,hu⟩=>[(1,.int .i64 (lv:Nat)),(4,.pointer (some ⟨g0,0,none⟩)),(7,slv rb off1 (l.length-(k+1)) (cap-k-1)),(9,.pointer (some ⟨g2,0,none⟩)),(10,.pointer (some ⟨g3,0,none⟩))]) (fun⟨u,hu⟩=>[⟨rb,92,stC l,nn,false⟩,ZB g0,⟨some g1,92,stp3 s,3,true⟩,⟨some g2,94,frm4 o,4,true⟩,⟨some g3,30,NB7 (o.1:Nat) u.1 u.2 none 0 0,7,true⟩]) ?_ ?_
  ·refine A13 ?_;refine Cd ?_ ?_<;>intro hb2
   ·have ho1:o.1=1:=by have:=eq_of_beq hb2;omega
    refine A3 ?_;refine Pc (c_law_fraction s.2.1 hs2) ?_;refine A1 ?_;refine So 4 2 [_,_,_,_,⟨some g3,30,_,7,true⟩] [_,_,_,_,_,_,_] ?_;refine A3 ?_;exact at_intoX ⟨([],frQ s.2.1),sok_leaf hoK (.inl ho1) (by rw[ho1];exact goodM_num (frQ_bytes hs2))⟩ ⟨rfl,rfl,rfl,rfl,rfl,trivial⟩ (weak_pk [some 0,some 1,some 2,some 3,some 4])
   ·have ho1:o.1≠1:=by have:=ne_of_beq_false hb2;omega
    refine A6 ?_;refine Cd ?_ ?_<;>intro hb3
    ·have ho3:o.1=3:=by have:=eq_of_beq hb3;omega
     refine A3 ?_;refine r_conv (r:=((s.2.1:Nat):Int)) u5 u3 rfl rfl rfl (wi (by omega) (by omega) (by omega)) ?_;refine Ar (((1+s.2.1:Nat):Int)) ?_;refine Pc (c_rational_FromInt ((1+s.2.1:Nat):Int) (by omega) (by omega)) ?_;refine A1 ?_;refine So 4 2 [_,_,_,_,⟨some g3,30,_,7,true⟩] [_,_,_,_,_,_,_] ?_;refine A3 ?_;exact at_intoX ⟨([],(((1+s.2.1:Nat):Int):Rat)),sok_leaf hoK (.inr (.inl ho3)) (by rw[ho3];exact goodM_obj (obj_bytes hs2).2 (obj_bytes hs2).1)⟩ ⟨rfl,rfl,rfl,rfl,rfl,trivial⟩ (weak_pk [some 0,some 1,some 2,some 3,some 4])
    ·have ho3:o.1≠3:=by have:=ne_of_beq_false hb3;omega
     refine A6 ?_;refine Cd ?_ ?_<;>intro hb4
     ·have ho4:o.1=4:=by have:=eq_of_beq hb4;omega
      obtain⟨v,hv⟩:∃v,varT[s.2.1%4]? =some v:=⟨_,List.getElem?_eq_getElem (by show _<4;omega)⟩;refine A2 ?_;refine r_buildSlice [(0,_),(1,_),(2,_),(3,_)] (fun g=>[_,_,_,_,_,⟨some g,9,_,4,true⟩]) rfl rfl rfl (bs36_4) rfl (fun _=>rfl) (fun g4=>?_);refine A2 ?_;refine r_div (r:=((s.2.1%4:Nat):Int)) rfl rfl rfl rfl (by decide) (congrArg some (rem_n _ 4 rfl rfl)) ?_;refine Ix 5 (s.2.1%4*1) ?_;refine r_load (v:= .string (strU v)) 5 (s.2.1%4*1) _ rfl rfl rfl rfl ti9 (SB_get (l:=varT) hv) rfl (by decide) rfl ?_;refine A1 ?_;refine So 4 1 [_,_,_,_,⟨some g3,30,_,7,true⟩,_] [_,_,_,_,_,_,_] ?_;refine A6 ?_;refine Pc (c_law_isName s.2.2 (by omega)) ?_;refine A2 ?_;refine Cd ?_ ?_<;>intro hb5
      ·have hn:nameL s.2.2=true:=by rw[name_same];exact hb5
       refine A4 ?_;refine So 4 1 [_,_,_,_,⟨some g3,30,_,7,true⟩,_] [_,_,_,_,_,_,_] ?_;refine A3 ?_;exact at_intoX ⟨(s.2.2,0),sok_leaf hoK (.inr (.inr (.inl ho4))) (by rw[ho4];exact goodM_name (.inl ⟨rfl,hn⟩) (Nat.le_trans hs3 (by decide)))⟩ ⟨rfl,rfl,rfl,rfl,rfl,trivial⟩ (weak_picks [some 0,some 1,some 2,some 3,some 4] ⟨⟨_,rfl,Blk.le_refl _⟩,⟨_,rfl,Blk.le_refl _⟩,⟨_,rfl,Blk.le_refl _⟩,⟨_,rfl,Blk.le_refl _⟩,⟨_,rfl,le_same (congrArg (fun c=>(⟨some g3,30,c,7,true⟩:Blk)) (NB7_zero _ _ _ _ _))⟩,trivial⟩ rfl rfl)
      ·have hn:nameL s.2.2=false:=by rw[name_same];exact hb5
       refine A3 ?_;exact at_intoX ⟨(v,0),sok_leaf hoK (.inr (.inr (.inl ho4))) (by rw[ho4];exact goodM_name (.inl ⟨rfl,(varT_ok (List.mem_of_getElem? hv)).1⟩) (varT_ok (List.mem_of_getElem? hv)).2)⟩ ⟨rfl,rfl,rfl,rfl,rfl,trivial⟩ (weak_picks [some 0,some 1,some 2,some 3,some 4] ⟨⟨_,rfl,Blk.le_refl _⟩,⟨_,rfl,Blk.le_refl _⟩,⟨_,rfl,Blk.le_refl _⟩,⟨_,rfl,Blk.le_refl _⟩,⟨_,rfl,le_same (congrArg (fun c=>(⟨some g3,30,c,7,true⟩:Blk)) (NB7_zero _ _ _ _ _))⟩,trivial⟩ rfl rfl)
     ·have ho4:o.1≠4:=by have:=ne_of_beq_false hb4;omega
      refine A6 ?_;refine Cd ?_ ?_<;>intro hb5
      ·have ho5:o.1=5:=by have:=eq_of_beq hb5;omega
       obtain⟨v,hv⟩:∃v,zonT[s.2.1%3]? =some v:=⟨_,List.getElem?_eq_getElem (by show _<3;omega)⟩;refine A2 ?_;refine r_buildSlice [(0,_),(1,_),(2,_)] (fun g=>[_,_,_,_,_,⟨some g,9,_,3,true⟩]) rfl rfl rfl (bs36_3) rfl (fun _=>rfl) (fun g4=>?_);refine A2 ?_;refine r_div (r:=((s.2.1%3:Nat):Int)) rfl rfl rfl rfl (by decide) (congrArg some (rem_n _ 3 rfl rfl)) ?_;refine Ix 5 (s.2.1%3*1) ?_;refine r_load (v:= .string (strU v)) 5 (s.2.1%3*1) _ rfl rfl rfl rfl ti9 (SB_get (l:=zonT) hv) rfl (by decide) rfl ?_;refine A1 ?_;refine So 4 1 [_,_,_,_,⟨some g3,30,_,7,true⟩,_] [_,_,_,_,_,_,_] ?_;refine A6 ?_;refine Pc (c_law_isZone s.2.2 (by omega)) ?_;refine A2 ?_;refine Cd ?_ ?_<;>intro hb6
       ·have hn:zoneL s.2.2=true:=hb6;refine A4 ?_;refine So 4 1 [_,_,_,_,⟨some g3,30,_,7,true⟩,_] [_,_,_,_,_,_,_] ?_;refine A3 ?_;exact at_intoX ⟨(s.2.2,0),sok_leaf hoK (.inr (.inr (.inr ho5))) (by rw[ho5];exact goodM_name (.inr ⟨rfl,hn⟩) (Nat.le_trans hs3 (by decide)))⟩ ⟨rfl,rfl,rfl,rfl,rfl,trivial⟩ (weak_picks [some 0,some 1,some 2,some 3,some 4] ⟨⟨_,rfl,Blk.le_refl _⟩,⟨_,rfl,Blk.le_refl _⟩,⟨_,rfl,Blk.le_refl _⟩,⟨_,rfl,Blk.le_refl _⟩,⟨_,rfl,le_same (congrArg (fun c=>(⟨some g3,30,c,7,true⟩:Blk)) (NB7_zero _ _ _ _ _))⟩,trivial⟩ rfl rfl)
       ·have hn:zoneL s.2.2=false:=hb6;refine A3 ?_;exact at_intoX ⟨(v,0),sok_leaf hoK (.inr (.inr (.inr ho5))) (by rw[ho5];exact goodM_name (.inr ⟨rfl,(zonT_ok (List.mem_of_getElem? hv)).1⟩) (zonT_ok (List.mem_of_getElem? hv)).2)⟩ ⟨rfl,rfl,rfl,rfl,rfl,trivial⟩ (weak_picks [some 0,some 1,some 2,some 3,some 4] ⟨⟨_,rfl,Blk.le_refl _⟩,⟨_,rfl,Blk.le_refl _⟩,⟨_,rfl,Blk.le_refl _⟩,⟨_,rfl,Blk.le_refl _⟩,⟨_,rfl,le_same (congrArg (fun c=>(⟨some g3,30,c,7,true⟩:Blk)) (NB7_zero _ _ _ _ _))⟩,trivial⟩ rfl rfl)
      ·have ho5:o.1≠5:=by have:=ne_of_beq_false hb5;omega
       refine A6 ?_;refine Cd ?_ ?_<;>intro hb6
       ·have ho2:o.1=2:=by have:=eq_of_beq hb6;omega
        refine A1 ?_;refine at_drawn (l':=[⟨_,_,_,_,_,_⟩,⟨_,_,_,_,_,_⟩,⟨_,_,_,_,_,_⟩,⟨_,_,_,_,_,_⟩,⟨_,_,_,_,_,_⟩,⟨_,_,_,_,_,_⟩,⟨_,_,_,_,_,_⟩,⟨_,_,_,_,_,_⟩,⟨_,_,_,_,_,_⟩,⟨_,_,_,_,_,_⟩,⟨_,_,_,_,_,_⟩,⟨_,_,_,_,_,_⟩]) [] [0,1,4,5,6,2,3,7,8,9,10,11] mixed (by kernel_rfl) rfl (by kernel_rfl) ?_;refine A4 ?_;refine r_div (r:=((s.2.1/2:Nat):Int)) rfl rfl rfl rfl (by decide) (congrArg some (quo8 s.2.1 2 rfl rfl (by omega))) ?_;refine Pc (c_law_fraction s.2.1 hs2) ?_;refine r_build [(0,_),(2,_)] rfl rfl rfl (bd30_0_2x) ?_;refine Pc (c_law_fraction (s.2.1/2) (by omega)) ?_;refine r_build [(0,_),(2,_)] rfl rfl rfl (bd30_0_2x) ?_;refine r_buildSlice [(0,_),(1,_)] (fun g=>[_,_,_,_,_,⟨some g,30,_,14,true⟩]) rfl rfl rfl (bs28_2) rfl (fun _=>rfl) (fun g4=>?_);refine A1 ?_;refine So 4 6 [_,_,_,_,⟨some g3,30,_,7,true⟩,_] [_,_,_,_,_,_,_] ?_;refine A4 ?_;refine Ld 4 0 [_,_,_,_,_,_,_] ti30 ?_;refine A1 ?_;refine So 1 0 [_,⟨some g0,30,_,7,true⟩,_,_,_,_] [_,_,_,_,_,_,_] ?_;refine A6 ?_;refine at_end2 rfl (res_cell 1 rfl rfl ti30 (vs:=[_,_,_,_,_,_,_]) rfl rfl (Nat.le_of_ble_eq_true rfl) rfl) (res_tmp rfl) (fun w hL=>⟨⟨_,(XR.num (frQ s.2.1) 1).node2 2 (XR.num (frQ (s.2.1/2)) 1) g4,k+1,rb,off1,cap-k-1,⟨point_good (frQ_bytes hs2) (frQ_bytes (by omega)),by omega,by omega,by show(3:Nat)≤_;omega,by show(2:Nat)≤_;have:=fOK_pt hoK ho2;omega,fun h=>⟨rfl,by rw[hoff,if_neg (by omega)];omega,by omega⟩⟩⟩,by rw[ho2];rfl,(weak_pt2 (frQ s.2.1) (frQ (s.2.1/2))) _ _ hL⟩)
       ·have ho2:o.1≠2:=by have:=ne_of_beq_false hb6;omega
        refine A3 ?_;exact at_intoX ⟨([],0),sok_tree hoK ho1 ho3 ho4 ho5 ho2⟩ ⟨rfl,rfl,rfl,rfl,rfl,trivial⟩ (weak_picks [some 0,some 1,some 2,some 3,some 4] ⟨⟨_,rfl,Blk.le_refl _⟩,⟨_,rfl,Blk.le_refl _⟩,⟨_,rfl,Blk.le_refl _⟩,⟨_,rfl,Blk.le_refl _⟩,⟨_,rfl,le_same (congrArg (fun c=>(⟨some g3,30,c,7,true⟩:Blk)) (NB7_zero _ _ _ _ _))⟩,trivial⟩ rfl rfl)
  rintro⟨u,hu⟩;show At _ ⟨129,[(1,.int .i64 (lv:Nat)),(4,.pointer (some ⟨g0,0,none⟩)),(7,slv rb off1 (l.length-(k+1)) (cap-k-1)),(9,.pointer (some ⟨g2,0,none⟩)),(10,.pointer (some ⟨g3,0,none⟩))],[⟨rb,92,stC l,nn,false⟩,ZB g0,⟨some g1,92,stp3 s,3,true⟩,⟨some g2,94,frm4 o,4,true⟩,⟨some g3,30,NB7 (o.1:Nat) u.1 u.2 none 0 0,7,true⟩]⟩ _;refine A7 ?_;refine El (ι:=MadeS rb cap l.length (k+1) lv o.2.1) (fun⟨i,ls,z,k2,rb2,off2,c2,hM⟩=>([(1,.int .i64 (lv:Nat)),(4,.pointer (some ⟨g0,0,none⟩)),(7,slv rb2 off2 (l.length-k2) c2),(9,.pointer (some ⟨g2,0,none⟩)),(10,.pointer (some ⟨g3,0,none⟩)),(11,.int .i64 (i:Nat))],[⟨rb,92,stC l,nn,false⟩,ZB g0,⟨some g2,94,frm4 o,4,true⟩,AG g3 (o.1:Nat) u.1 (decide (u.2.num<0)) (mag u.2.num.natAbs) false (dm u.2) z,gB z.T true,⟨z.b,30,z.cs,z.n,true⟩],o.2.1-i)) ⟨0,[],XA.zero,k+1,rb,off1,cap-k-1,⟨fun y hy=>(by cases hy),rfl,Nat.zero_le _,Nat.le_refl _,by omega,by rw[XT.sizes];omega,by rw[XT.deps];omega,fun h=>⟨rfl,by rw[hoff,if_neg (by omega)];omega,by omega⟩⟩⟩ ?_ (hL:=(Weak.trans (B:=[⟨rb,92,stC l,nn,false⟩,ZB g0,⟨some g2,94,frm4 o,4,true⟩,⟨some g3,30,NB7 (o.1:Nat) u.1 u.2 none 0 0,7,true⟩]) (weak_pk [some 0,some 1,some 3,some 4]) (Weak.trans (Weak.newG _) (Weak.nilB _ (by decide)))));rintro⟨i,ls,z,k2,rb2,off2,c2,hM⟩;(try dsimp only);have hc3:=sok_le hu;have hM2:=hM.2.1;have hM3:=hM.2.2.1;have hM5:=hM.2.2.2.2.1;have hM8:=hM.2.2.2.2.2.2.2;refine A9 ?_;refine Cd ?_ ?_<;>intro hb4
  ·have hlt:i<o.2.1:=(by have:=of_decide_eq_true hb4;omega);have hl2:2≤lv:=(hu.2 (by omega)).2.2;refine A6 ?_;refine r_alloc [_,_,_,_,_,_,_] 7 (fun g=>[_,_,_,_,_,_,⟨some g,30,_,7,true⟩]) rfl rfl z30 rfl rfl (fun _=>rfl) (fun g4=>?_);refine A3 ?_;refine at_regionM ?_;refine A2 ?_;refine Ar (((lv-1:Nat):Int)) ?_;refine Gm 0 [] [0] (fun r=>[_,_,_,_,_,_,_,gB r.z.T true]) (H (lv-1) (by omega) rb cap nn l k2 rb2 off2 c2 (by omega) (by omega) hM5 hcap hll hM8 hS) (fun r=>?_);refine A3 ?_;refine So 6 0 [_,_,_,_,_,_,⟨some g4,30,_,7,true⟩,_] [_,_,_,_,_,_,_] ?_;refine A6 ?_;refine Ld 6 0 [_,_,_,_,_,_,_] ti30 ?_;refine Kr 123 (r.z.v) ?_;refine r_buildSlice [(0,_)] (fun g=>[_,_,_,_,_,_,_,_,⟨some g,30,_,7,true⟩]) rfl rfl rfl (bs28_1) rfl (fun _=>rfl) (fun g5=>?_);refine q_append (b:=⟨z.b,30,z.cs,z.n,true⟩) (len:=ls.length) (cap:=z.cap) (n2:=1) 5 8 (fun ar=>[_,_,_,_,_,⟨some ar.g,30,z.cs++r.z.cs,ar.n,true⟩,_,_,_]) u28 el30 rfl rfl rfl rfl rfl rfl rfl rfl rfl rfl rfl rfl z.hlen z.hcap z.hn rfl (fun v hv=>simpleT_one r.z.cs_simple v hv) (by omega) (fun ar=>rfl) (fun ar=>?_);refine A1 ?_;refine So 3 6 [_,_,_,⟨some g3,30,_,7,true⟩,_,_,_,_,_] [_,_,_,_,_,_,_] ?_;refine A5 ?_;refine Ar (((i+1:Nat):Int)) ?_;refine A3 ?_;exact Nl ⟨i+1,ls++[r.x],z.add r.z ar,r.k',r.rb,r.off,r.c,made_step hl2 hM hlt r⟩ (hL:=(weak_addG z r.z ar))
  ·have hge:¬i<o.2.1:=(by have:=of_decide_eq_false hb4;omega);refine A7 ?_;refine Ld 3 0 [_,_,_,_,_,_,_] ti30 ?_;refine A1 ?_;refine So 1 0 [_,⟨some g0,30,_,7,true⟩,_,_,_,_] [_,_,_,_,_,_,_] ?_;refine A4 ?_;refine at_end2 rfl (res_cell 1 rfl rfl ti30 (vs:=[_,_,_,_,_,_,_]) rfl rfl (Nat.le_of_ble_eq_true rfl) rfl) (res_tmp rfl) (fun w hL=>⟨⟨_,z.finG (o.1:Nat) u.1 (u:= .q u.2) rfl,k2,rb2,off2,c2,made_fin hu hlv (by omega) hM hge⟩,rfl,(Weak.trans (B:=[gB z.T true,⟨z.b,30,z.cs,z.n,true⟩]) (weak_pk [some 4,some 5]) (weak_fin z)) _ _ hL⟩)
theorem c_law_made(lv:Nat):MadC lv:=Nat.strongRecOn lv fun lv H b cap nn l k rb off c h1 h2 h3 h4 h5 h6 h7=>c_law_made_step lv H b cap nn l k rb off c h1 h2 h3 h4 h5 h6 h7
theorem made_facts{b:Option Nat}{cap n lv:Nat}(r:MadeR b cap n 0 lv)(hn:n≤40)(hl:lv≤32):chkE r.x=0∧okX r.x∧qX r.x∧r.x.fit=true∧r.x.size≤121∧(txt r.x 1).length≤48400:=by
 obtain⟨⟨h1,h2,h3⟩,h4,h5,h6,h7,_⟩:=r.h
 have h8:=txt_len r.x 1 h3
 refine⟨?_,h1,h2,tiny_fit _ h2 h3,by omega,by omega⟩
 unfold chkE
 rw[chk_good r.x 1 0 h1 (by omega) (by omega)]
theorem c_law_Make(lv:Nat)(b:Option Nat)(cap nn:Nat)(l:List Stp)(hlv:1≤lv)(hlv2:lv≤1000)(hcap:l.length≤cap)(hll:l.length≤1000000)(hS:∀s∈l,okS s):ECall Tryz.prog 33 [⟨b,92,stC l,nn,false⟩] [slv b 0 l.length cap,.int .i64 (lv:Nat)] (MadeR b cap l.length 0 lv) (fun r=>r.z.v) (fun r=>[gB r.z.T true]):=by
 refine⟨by kernel_rfl,fun B w hD hL0=>?_⟩;refine cB2 14 Tryz.func33 hL0 ?_;refine A2 ?_;refine r_alloc [_,_,_,_,_,_,_] 7 (fun g=>[_,⟨some g,30,_,7,true⟩]) rfl rfl z30 rfl rfl (fun _=>rfl) (fun g0=>?_);refine A3 ?_;refine at_regionM ?_;refine A2 ?_;refine Gm 0 [] [0] (fun r=>[_,_,gB r.z.T true]) (c_law_made lv b cap nn l 0 b 0 cap hlv hlv2 (Nat.zero_le _) hcap hll (fun _=>⟨rfl,rfl,rfl⟩) hS) (fun r=>?_);refine A3 ?_;refine r_alloc [_,_,_,_,_,_,_] 7 (fun g=>[_,_,_,⟨some g,30,_,7,true⟩]) rfl rfl z30 rfl rfl (fun _=>rfl) (fun g1=>?_);refine So 3 0 [_,_,_,⟨some g1,30,_,7,true⟩] [_,_,_,_,_,_,_] ?_;refine A5 ?_;refine Ld 3 0 [_,_,_,_,_,_,_] ti30 ?_;refine Kr 13 (r.z.v) ?_;refine So 1 0 [_,⟨some g0,30,_,7,true⟩,_,_] [_,_,_,_,_,_,_] ?_;refine A3 ?_;refine at_end1 rfl (res_cell 1 rfl rfl ti30 (vs:=[_,_,_,_,_,_,_]) rfl rfl (Nat.le_of_ble_eq_true rfl) rfl) (fun w hL=>⟨r,rfl,(show Weak _ [gB r.z.T true] from weak_pk [some 2]) _ _ hL⟩)
end Go.Proofs.YtfijbadahkmhbaaGreatDoor
namespace Go.Via
open Go Go.RowKit
abbrev Frm:=Nat×Nat×Nat×Bs8
theorem frmC_op{l:List Frm}{i:Nat}{o:Frm}(h:l[i]? =some o):((frmC l).drop (i*4)).take 1=[.int .i64 (o.1:Nat)]:=by
 have h1:=frmC_get h
 have h2:(((frmC l).drop (i*4)).take 4).take 1=[.int .i64 (o.1:Nat)]:=by rw[h1];rfl
 rw[List.take_take] at h2
 exact h2
def mfind(op:Int):Option Frm:=frmT.find? (fun o=>decide ((o.1:Int)=op))
def mofV(op:Int):Value:=match mfind op with
 |some o=> .tuple #[.agg (frm4 o).toArray,.bool true]
 |none=> .tuple #[.agg #[.int .i64 0,.int .i64 0,.int .i64 0,.string ⟨#[]⟩],.bool false]
theorem frm_cnt:∀o∈frmT,cntL (o.1:Int)=(o.2.1:Int):=by
 have h:frmT.all (fun o=>decide (cntL (o.1:Int)=(o.2.1:Int)))=true:=by decide+kernel
 intro o ho
 exact of_decide_eq_true (List.all_eq_true.1 h o ho)
theorem cnt_some{op:Int}{o:Frm}(h:mfind op=some o):cntL op=(o.2.1:Int):=by
 have h1:((o.1:Nat):Int)=op:=by have:=List.find?_some h;simpa using this
 rw[←h1]
 exact frm_cnt o (List.mem_of_find?_eq_some h)
theorem cnt_none{op:Int}(h:mfind op=none):cntL op= -1:=by
 have hn:∀k:Nat,(frmT.any fun o=>o.1==k)=true→(k:Int)≠op:=fun k hk e=>by
  obtain⟨o,ho,hk2⟩:=List.any_eq_true.1 hk
  have:=List.find?_eq_none.1 h o ho
  rw[eq_of_beq hk2] at this
  simp[e] at this
 have a1:=hn 1 (by decide+kernel)
 have a2:=hn 2 (by decide+kernel)
 have a3:=hn 3 (by decide+kernel)
 have a4:=hn 4 (by decide+kernel)
 have a5:=hn 5 (by decide+kernel)
 have a6:=hn 6 (by decide+kernel)
 have a25:=hn 25 (by decide+kernel)
 unfold cntL
 rw[if_neg (by omega),if_neg (by omega),if_neg (by omega)]
 have f1:funT.find? (fun f=>decide ((f.2.1:Int)=op))=none:=by
  refine List.find?_eq_none.2 fun f hf=>?_
  have h1:funT.all (fun f=>frmT.any fun o=>o.1==f.2.1)=true:=by decide+kernel
  have:=hn f.2.1 (List.all_eq_true.1 h1 f hf)
  simpa using this
 have f2:opsT.find? (fun f=>decide ((f.2.1:Int)=op))=none:=by
  refine List.find?_eq_none.2 fun f hf=>?_
  have h1:opsT.all (fun f=>frmT.any fun o=>o.1==f.2.1)=true:=by decide+kernel
  have:=hn f.2.1 (List.all_eq_true.1 h1 f hf)
  simpa using this
 rw[f1,f2]
noncomputable def mnode(x:XT)(lv n:Nat):Nat:=if 256≤n then 3 else if 32<lv then 33 else nodeE x
mutual
noncomputable def mch:XT→Nat→Nat→Nat×Nat
 | .mk o nm u l,lv,n=>if mnode (.mk o nm u l) lv n≠0 then(mnode (.mk o nm u l) lv n,n+1) else mchs l (lv+1) (n+1)
noncomputable def mchs:List XT→Nat→Nat→Nat×Nat
 |[],_,n=>(0,n)
 |x::l,lv,n=>if(mch x lv n).1≠0 then mch x lv n else mchs l lv (mch x lv n).2
end
theorem mch_eq(x:XT)(lv n:Nat):mch x lv n=if mnode x lv n≠0 then(mnode x lv n,n+1) else mchs x.args (lv+1) (n+1):=by
 cases x with
 |mk o nm u l=>rw[mch];rfl
theorem mchs_step{l:List XT}{i:Nat}{y:XT}{lv n:Nat}(hy:l[i]? =some y):mchs (l.drop i) lv n=if(mch y lv n).1≠0 then mch y lv n else mchs (l.drop (i+1)) lv (mch y lv n).2:=by
 obtain⟨hl,rfl⟩:=List.getElem?_eq_some_iff.1 hy
 rw[List.drop_eq_getElem_cons hl,mchs]
mutual
theorem mch_chk:∀(x:XT) (lv n:Nat),(mch x lv n).1=(chk x lv n).1∧((chk x lv n).1=0→(mch x lv n).2=(chk x lv n).2)
 | .mk o nm u l,lv,n=>by
   rw[mch,chk,mnode]
   by_cases h1:256≤n
   ·rw[if_pos h1,if_pos h1,if_pos (by decide)];exact⟨rfl,fun h=>by cases h⟩
   ·rw[if_neg h1,if_neg h1]
    by_cases h2:32<lv
    ·rw[if_pos h2,if_pos h2,if_pos (by decide)];exact⟨rfl,fun h=>by cases h⟩
    ·rw[if_neg h2,if_neg h2]
     by_cases h3:nodeE (.mk o nm u l)≠0
     ·rw[if_pos h3,if_pos h3];exact⟨rfl,fun _=>rfl⟩
     ·rw[if_neg h3,if_neg h3];exact mchs_chk l (lv+1) (n+1)
theorem mchs_chk:∀(l:List XT) (lv n:Nat),(mchs l lv n).1=(chks l lv n).1∧((chks l lv n).1=0→(mchs l lv n).2=(chks l lv n).2)
 |[],lv,n=>by rw[mchs,chks];exact⟨rfl,fun _=>rfl⟩
 |x::l,lv,n=>by
  obtain⟨a1,a2⟩:=mch_chk x lv n
  rw[mchs,chks,a1]
  by_cases h:(chk x lv n).1≠0
  ·rw[if_pos h,if_pos h];exact⟨a1,a2⟩
  ·rw[if_neg h,if_neg h,a2 (by omega)];exact mchs_chk l lv _
end
theorem mnode_0{x:XT}{lv n:Nat}(h:mnode x lv n=0):n<256∧lv≤32∧nodeE x=0:=by
 unfold mnode at h
 split at h
 ·cases h
 ·split at h
  ·cases h
  ·exact⟨by omega,by omega,h⟩
mutual
theorem mch_le0:∀(x:XT) (lv n:Nat),n≤256→(mch x lv n).1=0→(mch x lv n).2≤256
 | .mk o nm u l,lv,n,h,h0=>by
   rw[mch] at h0 ⊢
   split at h0
   ·rename_i h2;exact absurd h0 h2
   ·rename_i h2
    have:=mnode_0 (x:= .mk o nm u l) (lv:=lv) (n:=n) (by omega)
    rw[if_neg h2];exact mchs_le0 l _ _ (by omega) h0
theorem mchs_le0:∀(l:List XT) (lv n:Nat),n≤256→(mchs l lv n).1=0→(mchs l lv n).2≤256
 |[],lv,n,h,h0=>by rw[mchs];exact h
 |x::l,lv,n,h,h0=>by
  rw[mchs] at h0 ⊢
  split at h0
  ·rename_i h2;exact absurd h0 h2
  ·rename_i h2
   rw[if_neg h2];exact mchs_le0 l lv _ (mch_le0 x lv n h (by omega)) h0
end
theorem frm_of{x:XT}{o:Frm}(h:mfind x.op=some o):((o.1:Nat):Int)=x.op:=by have:=List.find?_some h;simpa using this
theorem mfind_ok{x:XT}(h:nodeE x=0):∃o,mfind x.op=some o:=by
 cases hm:mfind x.op with
 |some o=>exact⟨o,rfl⟩
 |none=>
  have h1:=nodeE_cnt h
  rw[cnt_none hm] at h1
  omega
theorem frm_level:∀o∈frmT,(opsT.find? (fun f=>decide ((f.2.1:Int)=(o.1:Nat)))=none∧(o.2.2.1=0∨o.2.2.1=8))∨(opsT.find? (fun f=>decide ((f.2.1:Int)=(o.1:Nat)))=some (o.2.2.2,o.1,o.2.2.1)∧1≤o.2.2.1∧o.2.2.1≤7):=by
 have h:frmT.all (fun o=>decide ((opsT.find? (fun f=>decide ((f.2.1:Int)=(o.1:Nat)))=none∧(o.2.2.1=0∨o.2.2.1=8))∨(opsT.find? (fun f=>decide ((f.2.1:Int)=(o.1:Nat)))=some (o.2.2.2,o.1,o.2.2.1)∧1≤o.2.2.1∧o.2.2.1≤7)))=true:=by decide+kernel
 intro o ho
 exact of_decide_eq_true (List.all_eq_true.1 h o ho)
theorem txt_none{x:XT}(h:opsT.find? (fun f=>decide ((f.2.1:Int)=x.op))=none)(lv lv':Nat):txt x lv=txt x lv':=by
 cases x with
 |mk o nm u l=>
  replace h:opsT.find? (fun f=>decide ((f.2.1:Int)=o))=none:=h
  rw[txt,txt,h]
theorem part_txt{x:XT}{o:Frm}(h:mfind x.op=some o){lv:Nat}(h8:lv≤8):txt x lv=if 0<o.2.2.1∧o.2.2.1<lv then[40]++txt x 1++[41] else txt x 1:=by
 have hp:=frm_of h
 rcases frm_level o (List.mem_of_find?_eq_some h) with⟨h1,h2⟩|⟨h1,h2,h3⟩
 ·rw[hp] at h1
  rw[if_neg (by omega)]
  exact txt_none h1 _ _
 ·rw[hp] at h1
  have e1:=txt_op h1 1
  have e2:=txt_op h1 lv
  rw[if_neg (by show¬o.2.2.1<1;omega)] at e1
  rw[e2,e1]
  show(if o.2.2.1<lv then _ else _)=_
  by_cases hl:o.2.2.1<lv
  ·rw[if_pos hl,if_pos ⟨by omega,hl⟩]
  ·rw[if_neg hl,if_neg (by omega)]
theorem part_len{x:XT}{o:Frm}(h:mfind x.op=some o){lv:Nat}(h8:lv≤8):(txt x 1).length≤(txt x lv).length:=by
 rw[part_txt h h8]
 split
 ·simp only[List.length_append,List.length_cons,List.length_nil];omega
 ·exact Nat.le_refl _
theorem txt_call{x:XT}{o:Frm}(h:mfind x.op=some o)(hl:o.2.2.1=0∨o.2.2.1=8)(h1:x.op≠1)(h3:x.op≠3)(h4:x.op≠4)(h5:x.op≠5)(h6:x.op≠6):txt x 1=o.2.2.2++[40]++joinC (txtLs x.args)++[41]:=by
 have hp:=frm_of h
 have hm:=List.mem_of_find?_eq_some h
 rcases frm_level o hm with⟨q1,_⟩|⟨_,q2,q3⟩
 ·have hk:frmT.all (fun o=>o.1==1||o.1==3||o.1==4||o.1==5||o.1==6|| !(o.2.2.1==0||o.2.2.1==8)||(o.1==2&&o.2.2.2==[112,111,105,110,116])||(o.1 !=2&&decide (funT.find? (fun f=>decide ((f.2.1:Int)=(o.1:Nat)))=some (o.2.2.2,o.1,o.2.1))))=true:=by decide+kernel
  have hk2:=List.all_eq_true.1 hk o hm
  rw[hp] at q1
  cases x with
  |mk op nm u l=>
   replace hp:((o.1:Nat):Int)=op:=hp
   replace q1:opsT.find? (fun f=>decide ((f.2.1:Int)=op))=none:=q1
   replace h1:op≠1:=h1
   replace h3:op≠3:=h3
   replace h4:op≠4:=h4
   replace h5:op≠5:=h5
   replace h6:op≠6:=h6
   simp only[Bool.or_eq_true,Bool.and_eq_true,Bool.not_eq_true',beq_iff_eq,bne_iff_ne,ne_eq,decide_eq_true_eq] at hk2
   rw[hp] at hk2
   rw[txt,q1]
   dsimp only
   rw[if_neg h1,if_neg h4,if_neg h3,if_neg h5,if_neg h6]
   show(if op=2 then sPoint++joinC (txtLs l)++[41] else _)=o.2.2.2++[40]++joinC (txtLs l)++[41]
   rcases hk2 with((((((h|h)|h)|h)|h)|h)|h)|h
   ·omega
   ·omega
   ·omega
   ·omega
   ·omega
   ·rw[Bool.or_eq_false_iff,beq_eq_false_iff_ne,beq_eq_false_iff_ne] at h;omega
   ·rw[if_pos (by omega),h.2];rfl
   ·rw[if_neg (by omega),h.2]
 ·omega
theorem quoS_step{l:Bs8}{i:Nat}{c:UInt8}(h:l[i]? =some c):quoS (l.take (i+1))=quoS (l.take i)++(if c=34 then[34,34] else[c]):=by
 unfold quoS
 rw[List.take_add_one,h,List.flatMap_append]
 simp
end Go.Via
namespace Go.Proofs.YtfijbadahkmhbaaGreatDoor
open Go Go.RowKit Go.Via
def TexC(y:XT):Prop:=∀u:XR y,okX y→y.fit=true→(txt y 1).length≤17179869184→ECall Tryz.prog 35 [gB u.T false] [u.v] Unit (fun _=> .string (strU (txt y 1))) (fun _=>[])
theorem c_law_of(op:Int):ECall Tryz.prog 66 [] [.int .i64 op] Unit (fun _=>mofV op) (fun _=>[]):=by
 refine⟨by kernel_rfl,fun B w hD hL0=>?_⟩;refine cB1 25 Tryz.func66 hL0 ?_;refine A2 ?_;refine r_alloc [_,_,_,_] 4 (fun g=>[⟨some g,94,_,4,true⟩]) rfl rfl z94 rfl rfl (fun _=>rfl) (fun g0=>?_);refine A5 ?_;refine r_scall [] [] rfl rfl rfl c_law_forms trivial rfl (.inr fun _ b hb=>by rw[List.mem_singleton.1 hb]) (fun gf=>?_);refine A10 ?_;refine El (ι:={i:Nat // i≤30∧(frmT.take i).find? (fun o=>decide ((o.1:Int)=op))=none}) (fun⟨i,hi,hI⟩=>([(0,.int .i64 op),(2,.pointer (some ⟨g0,0,none⟩)),(4,slv (some gf) 0 30 30),(5,.int .i64 (i:Nat))],[⟨some g0,94,[.int .i64 0,.int .i64 0,.int .i64 0,.string ⟨#[]⟩],4,true⟩,⟨some gf,94,frmC frmT,120,true⟩],30-i)) ⟨0,Nat.zero_le _,rfl⟩ ?_;rintro⟨i,hi,hI⟩;(try dsimp only);refine A9 ?_;refine Cd ?_ ?_<;>intro hb1
 ·have hlt:i<30:=(by have:=of_decide_eq_true hb1;omega);obtain⟨o,ho⟩:∃o,frmT[i]? =some o:=⟨frmT[i]'(by show i<30;exact hlt),List.getElem?_eq_getElem _⟩;refine A8 ?_;refine Ix 1 (i*4) ?_;refine r_fieldAddr 1 (i*4) 0 rfl rfl rfl rfl rfl ti94 rfl rfl ?_;refine r_load (v:= .int .i64 (o.1:Nat)) 1 (i*4) _ rfl rfl rfl rfl ti3 (frmC_op ho) rfl (by decide) rfl ?_;refine A4 ?_;refine Cd ?_ ?_<;>intro hb2
  ·have hop:(o.1:Int)=op:=by have hh:=hb2;simpa using hh
   refine A4 ?_;refine Ix 1 (i*4) ?_;refine r_load (v:= .agg #[.int .i64 (o.1:Nat),.int .i64 (o.2.1:Nat),.int .i64 (o.2.2.1:Nat),.string (strU o.2.2.2)]) 1 (i*4) _ rfl rfl rfl rfl ti94 (frmC_get ho) rfl (by decide) rfl ?_;refine So 0 0 [⟨some g0,94,_,4,true⟩,_] [_,_,_,_] ?_;refine A9 ?_;refine at_end2 rfl (res_cell 0 rfl rfl ti94 (vs:=[_,_,_,_]) rfl rfl (Nat.le_of_ble_eq_true rfl) rfl) (res_tmp rfl) (fun w hL=>⟨(),by unfold mofV;rw[show mfind op=some o from find_some_at hI ho (by simpa using hop)];rfl,hL.pk []⟩)
  ·have hop:(o.1:Int)≠op:=by have hh:=hb2;simpa using hh
   refine A5 ?_;refine Ar (((i+1:Nat):Int)) ?_;refine A3 ?_;exact Nl ⟨i+1,hlt,find_none_step hI ho (by simpa using hop)⟩
 ·have hge:i=30:=(by have:=of_decide_eq_false hb1;omega);subst hge;refine A7 ?_;refine r_build [] rfl rfl rfl (bd94_0) ?_;refine So 0 0 [⟨some g0,94,_,4,true⟩,_] [_,_,_,_] ?_;refine A4 ?_;refine at_end2 rfl (res_cell 0 rfl rfl ti94 (vs:=[_,_,_,_]) rfl rfl (Nat.le_of_ble_eq_true rfl) rfl) (res_tmp rfl) (fun w hL=>⟨(),by unfold mofV;rw[show mfind op=none from find_none_all hI (Nat.le_refl _)],hL.pk []⟩)
theorem c_law_isIdQ(q:Rat)(hq:szQ q≤1000000):PCall Tryz.prog 110 #[Q q] (.bool (idOK q)):=by
 refine⟨by kernel_rfl,fun w=>?_⟩;refine cB1 29 Tryz.func110 (LRel.nil w) ?_;refine A2 ?_;refine Bo [_,_,_,_] 4 (fun g=>[⟨some g,27,_,4,true⟩]) (fun g0=>?_);refine A6 ?_;refine Ld 0 0 [_,_,_,_] ti27 ?_;refine r_pcall [_] rfl rfl rfl (c_rational_Check _ _ _ _ (by rw[mag_size];exact nb_num hq) (dm_sz hq)) ?_;refine r_know 6 (.int .i64 0) rfl (by rw[isQ_Q];rfl) ?_;refine A1 ?_;refine Kr 7 (.bool false) ?_;refine A2 ?_;refine Ld 0 2 [_,_] ti25 ?_;refine r_build [] rfl rfl rfl (bd25_0) ?_;refine r_neqAgg rfl rfl rfl rfl gd25 (eq25r _ _ _ _) ?_;refine r_know 12 (.bool (!decide (q.den=1))) rfl (by rw[dm_nil]) ?_;refine A3 ?_;refine Cd ?_ ?_<;>intro hb0
 ·have hden:¬q.den=1:=by simpa using hb0
  refine A7 ?_;refine E1 fun w hL=>⟨?_,hL.below⟩;exact eB (by unfold idOK;rw[decide_eq_false hden];rfl)
 ·have hden:q.den=1:=by simpa using hb0
  refine A5 ?_;refine Ld 0 0 [_,_] ti25 ?_;refine Kr 16 (I q.num) ?_;refine Pc (c_integer_ToInt q.num) ?_;refine A11 ?_;refine Rs 21 ?_ ?_<;>intro hb1
  ·have hin:(-9223372036854775808≤q.num∧q.num≤9223372036854775807):=of_decide_eq_true hb1;refine A1 ?_;refine r_know 22 (.int .i64 q.num) rfl (by rw[if_pos hin]) ?_;refine A3 ?_;refine Rs 25 ?_ ?_<;>intro hb2
   ·have h1:1≤q.num:=(by have:=of_decide_eq_true hb2;omega);refine A1 ?_;refine r_know 26 (.int .i64 q.num) rfl (by rw[if_pos hin]) ?_;refine A6 ?_;refine E1 fun w hL=>⟨?_,hL.below⟩;exact eB (by unfold idOK;rw[decide_eq_true hden,decide_eq_true h1];rfl)
   ·have h1:¬1≤q.num:=(by have:=of_decide_eq_false hb2;omega);refine A7 ?_;refine E1 fun w hL=>⟨?_,hL.below⟩;exact eB (by unfold idOK;rw[decide_eq_false h1,Bool.and_false];rfl)
  ·have hin:¬(-9223372036854775808≤q.num∧q.num≤9223372036854775807):=of_decide_eq_false hb1;refine A11 ?_;refine E1 fun w hL=>⟨?_,hL.below⟩;exact eB (by unfold idOK;rw[Bool.and_assoc,show(decide (1≤q.num)&&decide (q.num≤1073741824))=false by(rw[←Bool.not_eq_true];simp;omega),Bool.and_false])
theorem c_law_isIdR(b1:Bool)(s1:ByteArray)(b2:Bool)(s2:ByteArray)(hs1:s1.size≤1000000)(hs2:s2.size≤1000000)(hq:isQ b1 s1 b2 s2=false):PCall Tryz.prog 110 #[.agg #[.bool b1,.string s1,.bool b2,.string s2]] (.bool false):=by
 refine⟨by kernel_rfl,fun w=>?_⟩;refine cB1 29 Tryz.func110 (LRel.nil w) ?_;refine A2 ?_;refine Bo [_,_,_,_] 4 (fun g=>[⟨some g,27,_,4,true⟩]) (fun g0=>?_);refine A6 ?_;refine Ld 0 0 [_,_,_,_] ti27 ?_;refine Pc (c_rational_Check b1 s1 b2 s2 hs1 hs2) ?_;refine r_know 6 (.int .i64 5) rfl (by rw[hq];rfl) ?_;refine A1 ?_;refine Kr 7 (.bool true) ?_;refine A16 ?_;refine E1 fun w hL=>⟨?_,hL.below⟩;exact rfl
theorem c_law_quoted(l:Bs8)(hl:l.length≤1000000):PCall Tryz.prog 68 #[.string (strU l)] (.string (strU ([34]++quoS l++[34]))):=by
 refine⟨by kernel_rfl,fun w=>?_⟩;refine cB1 26 Tryz.func68 (LRel.nil w) ?_;refine A17 ?_;refine El (ι:={i:Nat // i≤l.length}) (fun⟨i,hi⟩=>([(0,.string (strU l)),(3,.string (strU ([34]++quoS (l.take i)))),(4,.int .i64 (i:Nat))],[],l.length-i)) ⟨0,Nat.zero_le _⟩ ?_;rintro⟨i,hi⟩;(try dsimp only);refine A6 ?_;refine r_know 7 (.int .i64 (l.length:Nat)) rfl (by rw[strU_size]) ?_;refine A3 ?_;refine Cd ?_ ?_<;>intro hb1
 ·have hlt:i<l.length:=(by have:=of_decide_eq_true hb1;omega);obtain⟨c,hx⟩:∃c,l[i]? =some c:=⟨l[i],List.getElem?_eq_getElem hlt⟩;refine A9 ?_;refine r_idxS (b:=c) (r:=(c.toNat:Int)) u9 rfl rfl rfl rfl (by omega) hx rfl ?_;refine A3 ?_;refine Cd ?_ ?_<;>intro hb2
  ·have h34:c=34:=by have hh:=hb2;exact UInt8.toNat_inj.1 (by simpa using Int.ofNat_inj.1 (eq_of_beq hh))
   have hqs:=quoS_step hx;rw[if_pos h34] at hqs;have hql:=quoS_le2 (l.take i);have htl:(l.take i).length≤i:=(by rw[List.length_take];omega);refine A2 ?_;refine r_addS (p:=[34]++quoS (l.take i)) (q:=[34]) rfl rfl rfl rfl rfl rfl rfl (by simp only[List.length_append,List.length_cons,List.length_nil];omega) ?_;refine A8 ?_;refine Ar (((i+1:Nat):Int)) ?_;refine r_sliceS (i:=i) (j:=i+1) (r:=[c]) u9 rfl rfl rfl rfl rfl (by omega) (by omega) (by rw[drop_at hx,Nat.add_sub_cancel_left];rfl) ?_;refine r_addS (p:=[34]++quoS (l.take i)++[34]) (q:=[c]) rfl rfl rfl rfl rfl rfl rfl (by simp only[List.length_append,List.length_cons,List.length_nil];omega) ?_;refine A6 ?_;refine Ar (((i+1:Nat):Int)) ?_;refine A3 ?_;exact Nl ⟨i+1,hlt⟩ (ht:=⟨rfl,(look_val rfl (congrArg (fun s:Bs8=>Value.string (strU s)) (by rw[hqs,h34];simp))),rfl,trivial⟩)
  ·have h34:c≠34:=by have hh:=hb2;intro e;subst e;exact absurd hh (by decide)
   have hqs:=quoS_step hx;rw[if_neg h34] at hqs;have hql:=quoS_le2 (l.take i);have htl:(l.take i).length≤i:=(by rw[List.length_take];omega);refine A7 ?_;refine Ar (((i+1:Nat):Int)) ?_;refine r_sliceS (i:=i) (j:=i+1) (r:=[c]) u9 rfl rfl rfl rfl rfl (by omega) (by omega) (by rw[drop_at hx,Nat.add_sub_cancel_left];rfl) ?_;refine r_addS (p:=[34]++quoS (l.take i)) (q:=[c]) rfl rfl rfl rfl rfl rfl rfl (by simp only[List.length_append,List.length_cons,List.length_nil];omega) ?_;refine A6 ?_;refine Ar (((i+1:Nat):Int)) ?_;refine A3 ?_;exact Nl ⟨i+1,hlt⟩ (ht:=⟨rfl,(look_val rfl (congrArg (fun s:Bs8=>Value.string (strU s)) (by rw[hqs];simp))),rfl,trivial⟩)
 ·have hge:i=l.length:=(by have:=of_decide_eq_false hb1;omega);have htk:l.take i=l:=by rw[hge];exact List.take_of_length_le (Nat.le_refl _)
  refine A8 ?_;refine r_addS (p:=[34]++quoS (l.take i)) (q:=[34]) rfl rfl rfl rfl rfl rfl rfl (by have hql:=quoS_le2 (l.take i);have htl:(l.take i).length≤l.length:=(by rw[List.length_take];omega);simp only[List.length_append,List.length_cons,List.length_nil];omega) ?_;refine A4 ?_;refine E1 fun w hL=>⟨?_,hL.below⟩;exact congrArg (fun s:Bs8=>Ending.returned (.string (strU s))) (by rw[htk])
theorem c_part_o{x:XT}(z:XR x)(hT:TexC x)(hk:okX x)(hf:x.fit=true)(o:Frm)(hmf:mfind x.op=some o)(lv:Nat)(h8:lv≤8)(hb:(txt x lv).length≤17179869184):ECall Tryz.prog 70 [gB z.T false] [z.v,.int .i64 (lv:Nat)] Unit (fun _=> .string (strU (txt x lv))) (fun _=>[]):=by
 refine⟨by kernel_rfl,fun B w hD hL0=>?_⟩;obtain⟨h1,h2,h3,h4,h5,h6⟩:=z.inv;have hpl:=part_len hmf h8;have hpt:=part_txt hmf h8;refine cB2 28 Tryz.func70 hL0 ?_;refine A2 ?_;refine Bo [_,_,_,_,_,_,_] 7 (fun g=>[_,⟨some g,30,_,7,true⟩]) (fun g0=>?_);refine A5 ?_;refine at_regionM ?_;refine A2 ?_;refine Kp 9 h1 ?_;refine Gm 0 [] [] (fun _=>[_,_]) (c_law_of x.op) (fun _=>?_);refine r_know 10 (.tuple #[.agg #[.int .i64 (o.1:Nat),.int .i64 (o.2.1:Nat),.int .i64 (o.2.2.1:Nat),.string (strU o.2.2.2)],.bool true]) rfl (by unfold mofV;rw[hmf];rfl) ?_;refine A3 ?_;refine r_alloc [_,_,_,_] 4 (fun g=>[_,_,⟨some g,94,_,4,true⟩]) rfl rfl z94 rfl rfl (fun _=>rfl) (fun g1=>?_);refine So 2 0 [_,_,⟨some g1,94,_,4,true⟩] [_,_,_,_] ?_;refine A9 ?_;refine Rs 16 ?_ ?_<;>intro hb0
 ·have q1:0<o.2.2.1:=by have:=of_decide_eq_true hb0;omega
  refine A7 ?_;refine Cd ?_ ?_<;>intro hb1
  ·have q2:o.2.2.1<lv:=by have:=of_decide_eq_true hb1;omega
   rw[if_pos ⟨q1,q2⟩] at hpt;have hbl:=hb;rw[hpt] at hbl;refine A1 ?_;refine at_regionM ?_;refine Ld 1 0 [_,_,_,_,_,_,_] ti30 ?_;refine Kr 22 (z.v) ?_;refine Gm 0 [] [0] (fun _=>[_,_,_]) (hT z hk hf (by omega)) (fun _=>?_);refine r_addS (p:=[40]) (q:=txt x 1) rfl rfl rfl rfl rfl rfl rfl (by simp only[List.length_append,List.length_cons,List.length_nil] at hbl ⊢;omega) ?_;refine r_addS (p:=[40]++txt x 1) (q:=[41]) rfl rfl rfl rfl rfl rfl rfl (by simp only[List.length_append,List.length_cons,List.length_nil] at hbl ⊢;omega) ?_;refine A5 ?_;refine at_end1 rfl (res_tmp rfl) (fun w hL=>⟨(),congrArg (fun s:Bs8=>Ending.returned (.string (strU s))) (hpt).symm,hL.pk []⟩)
  ·have q2:¬o.2.2.1<lv:=by have:=of_decide_eq_false hb1;omega
   refine A3 ?_;refine at_regionM ?_;refine Ld 1 0 [_,_,_,_,_,_,_] ti30 ?_;refine Kr 26 (z.v) ?_;refine Gm 0 [] [0] (fun _=>[_,_,_]) (hT z hk hf (by omega)) (fun _=>?_);refine A4 ?_;refine at_end1 rfl (res_tmp rfl) (fun w hL=>⟨(),congrArg (fun s:Bs8=>Ending.returned (.string (strU s))) (show txt x lv=txt x 1 from by rw[hpt,if_neg (by omega)]).symm,hL.pk []⟩)
 ·have q1:¬0<o.2.2.1:=by have:=of_decide_eq_false hb0;omega
  refine A11 ?_;refine at_regionM ?_;refine Ld 1 0 [_,_,_,_,_,_,_] ti30 ?_;refine Kr 26 (z.v) ?_;refine Gm 0 [] [0] (fun _=>[_,_,_]) (hT z hk hf (by omega)) (fun _=>?_);refine A4 ?_;refine at_end1 rfl (res_tmp rfl) (fun w hL=>⟨(),congrArg (fun s:Bs8=>Ending.returned (.string (strU s))) (show txt x lv=txt x 1 from by rw[hpt,if_neg (by omega)]).symm,hL.pk []⟩)
theorem c_part{x:XT}(z:XR x)(hT:TexC x)(hk:okX x)(hf:x.fit=true)(lv:Nat)(h8:lv≤8)(hb:(txt x lv).length≤17179869184):
 ECall Tryz.prog 70 [gB z.T false] [z.v,.int .i64 (lv:Nat)] Unit (fun _=> .string (strU (txt x lv))) (fun _=>[]):=by
 obtain⟨o,ho⟩:=mfind_ok (okX_parts hk).1
 exact c_part_o z hT hk hf o ho lv h8 hb
end Go.Proofs.YtfijbadahkmhbaaGreatDoor
