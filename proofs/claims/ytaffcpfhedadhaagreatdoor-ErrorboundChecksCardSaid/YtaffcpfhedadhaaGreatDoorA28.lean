/-
  Part 28 (chapter 32): lemmas, walks. Each theorem states its own conditions.
-/
import GoSem.Core.World
import Derived.MapKept
import Derived.WalkKit
import Derived.WalkSpells
import Derived.WalkLawsBesides
import Derived.Deep.LoopGhost
import Derived.Deep.AppendSrc
import Derived.Laws.BytesArg
import Derived.Laws.CopyRow
import Derived.Laws.AppendOwn
import Derived.Deep.Upon
import Derived.Test.YtaffcpfhedadhaaGreatDoorProg
import Derived.Shelf.Strings.Builder1
import Derived.Shelf.Strings.Builder2
import Derived.Shelf.Small.Utf8
import Derived.Shelf.Small.Bits
import Derived.Shelf.Small.Strs
import Derived.Shelf.Small.Wraps
import Derived.Shelf.Strings.BuilderF
import Derived.Shelf.Strconv.Itoa0
import Derived.Shelf.Strings.Search1
import Derived.Shelf.Strings.Prefix
import Derived.Shelf.Strings.Runes
import Derived.Shelf.Strings.AsciiSet
import Derived.Shelf.Bits.Mul64
import Derived.Shelf.Strings.Repeat
import Derived.Shelf.Unicode.DecodeSlow
import Derived.Laws.Externs
import Derived.Lib.ItoaNum
import Derived.Test.YtaffcpfhedadhaaGreatDoorA26
set_option linter.all false
set_option maxRecDepth 20000
set_option maxHeartbeats 20000000
namespace Go.Via
open Go
def qto(a b:List PU)(m:Rl)(l:List iT):List iT:=l.flatMap fun p=>match atL a b m with
 |some d=>if(decide (aY p.i.f m<0)&&decide (aY m p.i.t<0))=true then[⟨⟨p.i.f,m,p.i.fo,false⟩,p.a,d⟩,⟨⟨m,p.i.t,true,p.i.tp⟩,d,p.b⟩] else[p]
 |none=>[p]
def Jm{S:Rl->Prop}{ρ:Rl->Int}(T:dM S ρ){t:Rl}(ht:S t):∀{l:List PU},nR ρ l->Ends S l->∀{x y:PU},x∈l->y∈l->Jl x.i t=true->Jl y.i t=true->x=y
 |[],_,_,x,y,hx,_,_,_=>by cases hx
 |u::l,h,he,x,y,hx,hy,h1,h2=>by
  have k1:=(L6 T (he x hx) ht).1 h1;have k2:=(L6 T (he y hy) ht).1 h2;obtain⟨s1,s2⟩:=List.pairwise_cons.1 h.1;rcases List.mem_cons.1 hx with rfl|hx'<;>rcases List.mem_cons.1 hy with rfl|hy'
  ·rfl
  ·have:=s1 y hy';omega
  ·have:=s1 x hx';omega
  ·exact Jm T ht ⟨s2,fun z hz=>h.2 z (List.mem_cons_of_mem _ hz)⟩ (fun z hz=>he z (List.mem_cons_of_mem _ hz)) hx' hy' h1 h2
def qoV{a b:List PU}{t:Rl}{x y:PU}(hx:x∈a)(hy:y∈b)(h1:Jl x.i t=true)(h2:Jl y.i t=true):∃d,atL a b t=some d:=by
 cases h:atL a b t with
 |some d=>exact⟨d,rfl⟩
 |none=>
  exfalso
  have e1:=List.findSome?_eq_none_iff.1 h x hx;have e2:=List.findSome?_eq_none_iff.1 e1 y hy;rw[h1,h2] at e2;cases e2
theorem ZV{a b:List PU}{m:Rl}{S:Rl->Prop}{ρ:Rl->Int}(W:Two a b m S ρ){z:Iv×Qd}(hz:z∈aA a b)(hc:(decide (aY z.1.f m<0)&&decide (aY m z.1.t<0))=true):atL a b m=some (zN z.2 m):=by
 rw[fP W.T W.sa W.sb W.ea W.eb] at hz;obtain⟨x,hx,y,hy,hmt⟩:=(nD W.T W.sb W.eb W.sa W.ea).2 z hz;obtain⟨e1,e2,s1,s2,hlt,b1,b2,t1,t2⟩:=nC W.T (W.ea x hx) (W.eb y hy) hmt;rw[Bool.and_eq_true,decide_eq_true_eq,decide_eq_true_eq,W.T.lt s1 W.sm,W.T.lt W.sm s2] at hc;have q1:=(oI ρ z.1.b).2;have q2:=(oI ρ z.1.e).1;have f1:z.1.b.1=z.1.f:=rfl;have f2:z.1.e.1=z.1.t:=rfl;rw[f1] at q1;rw[f2] at q2;have i1:Jl x.i m=true:=(L6 W.T (W.ea x hx) W.sm).2 ae;have i2:Jl y.i m=true:=(L6 W.T (W.eb y hy) W.sm).2 ae;obtain⟨d,hd⟩:=qoV hx hy i1 i2;obtain⟨x',hx',y',hy',j1,j2,rfl⟩:=Xq hd;obtain rfl:=Jm W.T W.sm W.sa W.ea hx hx' i1 j1;obtain rfl:=Jm W.T W.sm W.sb W.eb hy hy' i2 j2;rw[hd,<-e2]
theorem qoW{a b:List PU}{m:Rl}(hm:m.ok)(sa:nR gU a)(sb:nR gU b)(ea:Ends fO a)(eb:Ends fO b):qto a b m ((aA a b).map aW)=(Em m (aA a b)).map aW:=by
 obtain⟨S,ρ,W⟩:=qiW hm sa sb ea eb;unfold qto Em;rw[List.map_flatMap,List.flatMap_map];have hfl:∀(l:List (Iv×Qd)) (f g:Iv×Qd->List iT),(∀z∈l,f z=g z)->l.flatMap f=l.flatMap g:=fun l f g h=>by
  induction l with
  |nil=>rfl
  |cons z l ih=>rw[List.flatMap_cons,List.flatMap_cons,h z (List.mem_cons_self ..),ih fun y hy=>h y (List.mem_cons_of_mem _ hy)]
 refine hfl _ _ _ fun z hz=>?_
 have ei:(aW z).i=z.1:=rfl;unfold H7;rw[ei]
 by_cases hc:(decide (aY z.1.f m<0)&&decide (aY m z.1.t<0))=true
 ·rw[if_pos hc,ZV W hz hc];dsimp only;rw[if_pos hc]
  rfl
 ·rw[if_neg hc];cases atL a b m with
  |none=>rfl
  |some d=>dsimp only;rw[if_neg hc];rfl
def Mc(x y:Rl):fM x y=x∨fM x y=y:=by unfold fM;split<;>simp
def qi5{d:Rl}(hd:d.ok){M:Rat}:∀{l:List iT} {o:Rl},((uX o∨o=d)∧aY o (rl M)<=0)->(∀p∈l,((uX p.a∨p.a=d)∧aY p.a (rl M)<=0)∧(uX p.b∨p.b=d)∧aY p.b (rl M)<=0)->
 (o=rl M∨∃p∈l,p.a=rl M∨p.b=rl M)->l.foldl (fun o x=>fM o (fM x.a x.b)) o=rl M:=by
 have O:=qcl hd;have top:∀{v:Rl},((uX v∨v=d)∧aY v (rl M)<=0)->fM v (rl M)=rl M∧fM (rl M) v=rl M:=fun {v} h=>by
  have hs:=O.swap (x:=rl M) (y:=v) (.inl ⟨_,rfl⟩) h.1
  constructor
  ·unfold fM
   split
   ·rfl
   ·exact O.eq0 h.1 (.inl ⟨_,rfl⟩) ae
  ·unfold fM;rw[if_neg ae]
 have keep:∀{x y:Rl},((uX x∨x=d)∧aY x (rl M)<=0)->((uX y∨y=d)∧aY y (rl M)<=0)->((uX (fM x y)∨fM x y=d)∧aY (fM x y) (rl M)<=0):=fun {x y} h1 h2=>by
  rcases Mc x y with e|e<;>rw[e]<;>assumption
 intro l
 induction l with
 |nil=>intro o _ _ h;rcases h with h|⟨p,hp,_⟩;exact h;cases hp
 |cons p l ih=>
  intro o ho hl h;obtain⟨ha,hb⟩:=hl p (List.mem_cons_self ..);rw[List.foldl_cons];refine ih (keep ho (keep ha hb)) (fun q hq=>hl q (List.mem_cons_of_mem _ hq)) ?_;rcases h with rfl|⟨q,hq,he⟩
  ·exact .inl (top (keep ha hb)).2
  ·rcases List.mem_cons.1 hq with rfl|hq
   ·left
    rcases he with e|e
    ·rw[e,(top hb).2];exact(top ho).1
    ·rw[e,(top ha).1];exact(top ho).1
   ·exact .inr ⟨q,hq,he⟩
def qeG{d:Rl}(hd:d.ok){M:Rat}{l:List iT}(h:∀p∈l,((uX p.a∨p.a=d)∧aY p.a (rl M)<=0)∧(uX p.b∨p.b=d)∧aY p.b (rl M)<=0)(hM:∃p∈l,p.a=rl M∨p.b=rl M):fB l=rl M:=by
 obtain⟨p,hp,he⟩:=hM;cases l with
 |nil=>cases hp
 |cons q l=>exact qi5 hd (h q (List.mem_cons_self ..)).1 h (.inr ⟨p,hp,he⟩)
def RP{l:List iT}(hne:l≠[]):∃p∈l,fB l=p.a∨fB l=p.b:=by
 have step:∀(l:List iT) (o:Rl),l.foldl (fun o x=>fM o (fM x.a x.b)) o=o∨∃p∈l,l.foldl (fun o x=>fM o (fM x.a x.b)) o=p.a∨l.foldl (fun o x=>fM o (fM x.a x.b)) o=p.b:=by
  intro l
  induction l with
  |nil=>intro o;exact .inl rfl
  |cons p l ih=>
   intro o;rw[List.foldl_cons];rcases ih (fM o (fM p.a p.b)) with e|⟨q,hq,e⟩
   ·rw[e];rcases Mc o (fM p.a p.b) with e1|e1
    ·exact .inl e1
    ·right
     refine⟨p,List.mem_cons_self ..,?_⟩;rw[e1];exact Mc _ _
   ·exact .inr ⟨q,List.mem_cons_of_mem _ hq,e⟩
 cases l with
 |nil=>exact absurd rfl hne
 |cons p l=>
  rcases step (p::l) p.a with e|h
  ·exact⟨p,List.mem_cons_self ..,.inl e⟩
  ·exact h
def Xz{a b:List PU}{m:Rl}(hm:m.ok)(sa:nR gU a)(sb:nR gU b)(ea:Ends fO a)(eb:Ends fO b)(hne:aA a b≠[]):
 ∃M,fB ((aA a b).map aW)=rl M∧qQ a b ((Em m (aA a b)).map aW) (rl M)=0∧qQ a b ((Em m (aA a b)).map aW) (rl (M+1))=30:=by
 obtain⟨S,ρ,W⟩:=qiW hm sa sb ea eb;have hpf:=fP W.T W.sa W.sb W.ea W.eb;have hps:=uZ W.T W.ea W.eb;rw[<-hpf] at hps;have hsep:=(nD W.T W.sb W.eb W.sa W.ea).1;rw[<-hpf] at hsep;obtain⟨M,hM,hle⟩:=Xu (ZQ sa sb ea eb) VE;have hSok:∀x,S x->x.ok:=fun x hx=>by
  rcases W.only x hx with⟨z,rfl⟩|rfl
  ·exact Oc _
  ·exact hm
 have hmem:∀w∈Em m (aA a b),∃z∈aA a b,w∈H7 m z:=fun w hw=>List.mem_flatMap.1 hw
 have hcert:fD (jY (aA a b)) none ((Em m (aA a b)).map aW)=0:=by
  refine Xw W.T (fun x hx=>(zX x).2 (hSok x hx)) (fun f x hx=>(zX _).2 (qiZ (hSok x hx))) (fun w hw=>?_) ?_ fun b hb=>MI
  ·obtain⟨z,hz,hw⟩:=hmem w hw;obtain⟨h1,h2⟩:=hps z hz;obtain⟨g1,g2,g3,g4,g5⟩:=(rP W.T W.sm h1 h2).1 w hw;exact⟨g1,g2,z,hz,by rw[<-g3],h1,g4,g5⟩
  ·clear hM hle hmem
   have:∀l:List (Iv×Qd),(∀z∈l,(S z.1.f∧S z.1.t)∧aI ρ z.1.b<aI ρ z.1.e)->l.Pairwise (fun x y=>aI ρ x.1.e<=aI ρ y.1.b)->(Em m l).Pairwise (fun x y=>aI ρ x.1.e<=aI ρ y.1.b):=by
    intro l
    induction l with
    |nil=>intro _ _;exact List.Pairwise.nil
    |cons z l ih=>
     intro h hs;obtain⟨s1,s2⟩:=List.pairwise_cons.1 hs;show(H7 m z++Em m l).Pairwise _;obtain⟨h1,h2⟩:=h z (List.mem_cons_self ..);have D:=rP W.T W.sm h1 h2;refine List.pairwise_append.2 ⟨D.2.1,ih (fun y hy=>h y (List.mem_cons_of_mem _ hy)) s2,fun x hx y hy=>?_⟩
     obtain⟨z',hz',hy⟩:=List.mem_flatMap.1 hy;have h':=h z' (List.mem_cons_of_mem _ hz');have d1:=(D.1 x hx).2.2.2.2;have d2:=((rP W.T W.sm h'.1 h'.2).1 y hy).2.2.2.1;have:=s1 z' hz';omega
   exact this _ hps hsep
 have hcov:dY (((Em m (aA a b)).map aW).map (·.i))=dY ((aA a b).map (·.1)):=by
  have e:((Em m (aA a b)).map aW).map (·.i)=(Em m (aA a b)).map (·.1):=(by rw[List.map_map];rfl);rw[e];unfold dY;refine WZ W.T rfl rfl (fun i hi=>?_) tY (fun i hi=>?_) tY fun k=>?_
  ·obtain⟨w,hw,rfl⟩:=List.mem_map.1 hi;obtain⟨z,hz,hw⟩:=hmem w hw;obtain⟨h1,h2⟩:=hps z hz;exact((rP W.T W.sm h1 h2).1 w hw).1
  ·obtain⟨z,hz,rfl⟩:=List.mem_map.1 hi;exact(hps z hz).1
  ·congr 1
   have:∀l:List (Iv×Qd),(∀z∈l,(S z.1.f∧S z.1.t)∧aI ρ z.1.b<aI ρ z.1.e)->memB ρ ((Em m l).map (·.1)) k=memB ρ (l.map (·.1)) k:=by
    intro l
    induction l with
    |nil=>intro _;rfl
    |cons z l ih=>
     intro h;obtain⟨h1,h2⟩:=h z (List.mem_cons_self ..);have D:=(rP W.T W.sm h1 h2).2.2.1 k;have ih:=ih fun y hy=>h y (List.mem_cons_of_mem _ hy)
     have e1:(Em m (z::l)).map (·.1)=(H7 m z).map (·.1)++(Em m l).map (·.1):=(by show(H7 m z++Em m l).map _=_;rw[List.map_append]);rw[e1];unfold memB at*;rw[List.any_append,D,ih,List.map_cons,List.any_cons];simp
   exact this _ hps
 have hgr:fB ((Em m (aA a b)).map aW)=rl M:=by
  have hbad:∀z∈aA a b,∀x,S x->aI ρ z.1.b<=2*ρ x+1->2*ρ x<=aI ρ z.1.e->aY (zN z.2 x) (rl M)<=0:=fun z hz x hx k1 k2=>by
   have hz':=hz;rw[hpf] at hz';obtain⟨u,hu,v,hv,hmt⟩:=(nD W.T W.sb W.eb W.sa W.ea).2 z hz';obtain⟨e1,e2,s1,s2,hlt,_⟩:=nC W.T (W.ea u hu) (W.eb v hv) hmt;have hI:=Cj (ea u hu) (eb v hv);rw[<-e1] at hI;obtain⟨⟨p1,h1⟩,⟨p2,h2⟩⟩:=hI;have hle:=hle (aW z) (List.mem_map.2 ⟨z,hz,rfl⟩) (rE z.2 p1) (rE z.2 p2) (by unfold aW;dsimp only;rw[h1,rF]) (by unfold aW;dsimp only;rw[h2,rF]);have q1:=(oI ρ z.1.b).1;have q2:=(oI ρ z.1.e).2;have f1:z.1.b.1=z.1.f:=rfl;have f2:z.1.e.1=z.1.t:=rfl;rw[f1] at q1;rw[f2] at q2;have c1:=W.T.gt s1 hx;have c2:=W.T.gt hx s2;refine qsU (hSok x hx) (by rw[e2];exact qvL _ _) (a:=p1) (b:=p2) (by rw[<-h1];omega) (by rw[<-h2];omega) hle.1 hle.2
  obtain⟨d,hd,hda⟩:∃d:Rl,d.ok∧∀z∈aA a b,(decide (aY z.1.f m<0)&&decide (aY m z.1.t<0))=true->zN z.2 m=d:=by
   cases h:atL a b m with
   |none=>exact⟨rl 0,Oc 0,fun z hz hc=>by rw[ZV W hz hc] at h;cases h⟩
   |some d=>
    obtain⟨x,_,y,_,_,_,e⟩:=Xq h;exact⟨d,by rw[e];exact qiZ hm,fun z hz hc=>by rw[ZV W hz hc] at h;injection h⟩
  have hint:∀z∈aA a b,fO z.1.f∧fO z.1.t:=fun z hz=>by
   rw[fP jM sa sb ea eb] at hz;exact(uZ jM ea eb z hz).1
  have hrat:∀(f:Qd) (x:Rl),fO x->uX (zN f x):=fun f x ⟨z,hz⟩=>by rw[hz,rF];exact⟨_,rfl⟩
  refine qeG hd (fun p hp=>?_) ?_
  ·obtain⟨w,hw,rfl⟩:=List.mem_map.1 hp;obtain⟨z,hz,hw⟩:=hmem w hw;obtain⟨h1,h2⟩:=hps z hz;have D:=(rP W.T W.sm h1 h2).1 w hw;have ew:w.2=z.2:=D.2.2.1;have q1:=oI ρ w.1.b;have q2:=oI ρ w.1.e;have f1:w.1.b.1=w.1.f:=rfl;have f2:w.1.e.1=w.1.t:=rfl;rw[f1] at q1;rw[f2] at q2;have D1:=D.2.1;have D2:=D.2.2.2;have c1:=hbad z hz w.1.f D.1.1 ae ae;have c2:=hbad z hz w.1.t D.1.2 ae ae;have em:(aW w).a=zN z.2 w.1.f∧(aW w).b=zN z.2 w.1.t:=by unfold aW;rw[ew];exact⟨rfl,rfl⟩
   rw[em.1,em.2];refine⟨⟨?_,c1⟩,?_,c2⟩
   ·unfold H7 at hw
    split at hw
    ·rename_i hc
     simp at hw;rcases hw with rfl|rfl
     ·exact .inl (hrat _ _ (hint z hz).1)
     ·exact .inr (hda z hz hc)
    ·rw[List.mem_singleton] at hw;rw[hw];exact .inl (hrat _ _ (hint z hz).1)
   ·unfold H7 at hw
    split at hw
    ·rename_i hc
     simp at hw;rcases hw with rfl|rfl
     ·exact .inr (hda z hz hc)
     ·exact .inl (hrat _ _ (hint z hz).2)
    ·rw[List.mem_singleton] at hw;rw[hw];exact .inl (hrat _ _ (hint z hz).2)
  ·obtain⟨p,hp,he⟩:=RP (l:=(aA a b).map aW) VE;obtain⟨z,hz,rfl⟩:=List.mem_map.1 hp;obtain⟨h1,h2⟩:=hps z hz;have D:=(rP W.T W.sm h1 h2).2.2.2;rw[hM] at he;rcases he with e|e
   ·obtain⟨w,hw,e1⟩:=D.1;exact⟨aW w,List.mem_map.2 ⟨w,List.mem_flatMap.2 ⟨z,hz,hw⟩,rfl⟩,.inl (e1.trans e.symm)⟩
   ·obtain⟨w,hw,e1⟩:=D.2;exact⟨aW w,List.mem_map.2 ⟨w,List.mem_flatMap.2 ⟨z,hz,hw⟩,rfl⟩,.inr (e1.trans e.symm)⟩
 refine⟨M,hM,?_,?_⟩
 ·unfold qQ;have h0:¬(aA a b).isEmpty=true:=fun h=>hne (List.isEmpty_iff.1 h)
  rw[if_neg h0,hcert,if_neg au,if_neg (fun h=>h hcov),Ea,if_neg au,hgr,if_neg (fun h=>h rfl)]
 ·unfold qQ;have h0:¬(aA a b).isEmpty=true:=fun h=>hne (List.isEmpty_iff.1 h)
  rw[if_neg h0,hcert,if_neg au,if_neg (fun h=>h hcov),Ea,if_neg au,hgr,if_pos];intro e;have e:M+1=M:=congrArg Rl.p e
  grind
end Go.Via
