/-
  Part 6 (chapter 32): lemmas, walks. Each theorem states its own conditions.
-/
import Derived.Laws.Small
import Derived.Test.YtaffcpfhedadhaaGreatDoorA05
set_option linter.all false
set_option maxRecDepth 20000
set_option maxHeartbeats 20000000
namespace Go.Via
variable[Mo]
open Go Go.RowKit
def aV.perm{B:Bs}{w:World}{L L':List aC}(hp:List.Perm L L')(h:aV B L w):aV B L' w:=by
 have key:L.Pairwise (fun bi bj=>(bi.own=true∨bj.own=true)->∀g,bi.base=some g->bj.base≠some g):=by
  rw[List.pairwise_iff_getElem];intro i j hi hj hij ho g hg hgj;rcases ho with ho|ho
  ·exact h.apart i j g _ _ (by omega) (List.getElem?_eq_getElem hi) (List.getElem?_eq_getElem hj) ho hg hgj
  ·exact h.apart j i g _ _ (by omega) (List.getElem?_eq_getElem hj) (List.getElem?_eq_getElem hi) ho hgj hg
 have key':=(hp.pairwise_iff (fun {x y} hxy ho g hy hx=>hxy ho.symm g hx hy)).1 key;rw[List.pairwise_iff_getElem] at key';refine⟨h.bel,fun k b hk=>?_,fun i j g bi bj hij hi hj ho hg hgj=>?_,h.grp.mem fun b hb=>hp.symm.subset hb⟩
 ·have hm:=hp.symm.subset (List.mem_of_getElem? hk);obtain⟨m,hm⟩:=List.mem_iff_getElem?.1 hm;exact h.blk m b hm
 ·obtain⟨hi1,rfl⟩:=List.getElem?_eq_some_iff.1 hi;obtain⟨hj1,rfl⟩:=List.getElem?_eq_some_iff.1 hj;rcases Nat.lt_or_gt_of_ne hij with c|c
  ·exact key' i j hi1 hj1 c (.inl ho) g hg hgj
  ·exact key' j i hj1 hi1 c (.inr ho) g hgj hg
def Ve(s:St)(dst:Option Nat)(v:Value):(s.put dst v).L=s.L:=by cases dst<;>rfl
structure sJ(s s':St):Prop where
 nt:s.nt=s'.nt
 L:List.Perm s.L s'.L
 look:∀d,look s.t d=look s'.t d
def sJ.rel{s s':St}(h:sJ s s'){B:Bs}{w:World}{a:Act}(r:kH B s' a w):kH B s a w:=
 ⟨r.df,r.size.trans h.nt.symm,fun d v hd=>r.tmp d v (by rw[<-h.look d];exact hd),r.mem.perm h.L.symm⟩
def sJ.refl(s:St):sJ s s:=⟨rfl,List.Perm.refl _,fun _=>rfl⟩
theorem sJ.symm{s s':St}(h:sJ s s'):sJ s' s:=⟨h.nt.symm,h.L.symm,fun d=>(h.look d).symm⟩
def sJ.trans{s s' s'':St}(h:sJ s s')(k:sJ s' s''):sJ s s'':=⟨h.nt.trans k.nt,h.L.trans k.L,fun d=>(h.look d).trans (k.look d)⟩
theorem sJ.put{s s':St}(h:sJ s s')(dst:Option Nat)(sv:Value)(new:List aC):sJ (({s with L:=s.L++new}:St).put dst sv) (({s' with L:=s'.L++new}:St).put dst sv):=by
 cases dst with
 |none=>exact⟨h.nt,h.L.append_right _,h.look⟩
 |some d=>
  refine⟨h.nt,h.L.append_right _,fun k=>?_⟩
  by_cases e:d=k
  ·subst e;simp[St.put,dR]
  ·simp[St.put,bY e,h.look k]
def sJ.put0{s s':St}(h:sJ s s')(dst:Option Nat)(sv:Value):sJ (s.put dst sv) (s'.put dst sv):=by
 have:=h.put dst sv []
 simpa using this
theorem sJ.wanted{s s':St}(h:sJ s s')(ops:Array Oper)(o:Oper):au ops o s.t=au ops o s'.t:=by
 unfold au
 split
 ·rfl
 ·split
  ·rw[h.look]
  ·rfl
def KCP(K:St->Prop):Prop:=∀s s',sJ s s'->K s->K s'
def KCP.kc{K:St->Prop}(h:KCP K):KC K:=fun s s' he=>h s s' ⟨he.nt,he.L▸List.Perm.refl _,he.look⟩
theorem IQ:∀{bl:List Nat} {L:List aC},E8 bl=false->blank bl L=L
 |[],L,_=>rfl
 |k::bl,L,h=>by
  unfold E8 at h;rw[List.any_cons,Bool.or_eq_false_iff] at h;unfold blank;rw[h.1];exact IQ (bl:=bl) h.2
theorem Oq{bl:List Nat}{s:St}(h:E8 bl=false):s.bk bl=s:=by show St.mk s.nt s.t (blank bl s.L)=s;rw[IQ h]
def iK.congrP{P:Program}{bl:List Nat}{ops:Array Oper}{o:Oper}{s s':St}{K:St->Prop}(hA:HY bl=true)(hS:E8 bl=false)(hK:KCP K)(h:sJ s s')(hs:iK P bl ops o s K):iK P bl ops o s' K:=by
 obtain⟨h0,g,hg,hh⟩:=hs;refine⟨by rw[<-h.nt];exact h0,g,by rw[<-h.wanted];exact hg,?_⟩;rcases hh with⟨h1,h2⟩|⟨h1,⟨h2,sv,h3,h4⟩|⟨h2,X,res,new,h3,hF,h4⟩|⟨hm,hA',hm',X,nx,h3,h4⟩|⟨hm,hd,L',h3,h5,h4⟩|⟨hA',e,cs,h3,h4⟩|⟨hC,hbS,X,res,nL,h3,h5,h4⟩⟩
 ·exact .inl ⟨h1,hK _ _ (h.put0 _ _) h2⟩
 ·refine .inr ⟨h1,.inl ⟨h2,sv,⟨fun B a w hr=>?_,fun h5 h6=>by rw[<-Gq h.look];exact h3.2 h5 h6⟩,hK _ _ (h.put0 _ _) h4⟩⟩
  have h3:=h3.1;rw[Oq hS] at hr h3;exact h3 B a w (h.rel hr)
 ·obtain⟨hF1,hX⟩:=hF hA;refine .inr ⟨h1,.inr (.inl ⟨h2,X,res,new,fun B a w hr=>?_,fun hb=>⟨fun B a w hr=>hF1 B a w (h.rel hr),hX⟩,fun x=>hK _ _ (h.put _ _ _) (h4 x)⟩)⟩
  obtain⟨f,args,r1,r2⟩:=hF1 B a w (h.rel hr);refine⟨f,args,r1,r2.mono ?_⟩;rintro e w' ⟨x,rfl,hx,hown⟩;exact⟨x,rfl,hr.mem.joinF hx hown⟩
 ·exact .inr ⟨h1,.inr (.inr (.inl ⟨hm,hA',hm',X,nx,fun B a w hr=>h3 B a w (h.rel hr),h4⟩))⟩
 ·exact .inr ⟨h1,.inr (.inr (.inr (.inl ⟨hm,hd,L',fun B a w hr=>h3 B a w (h.rel hr),(fun hb=>by rw[hS] at hb;cases hb),hK {s with L:=L'} {s' with L:=L'} ⟨h.nt,List.Perm.refl _,h.look⟩ h4⟩)))⟩
 ·exact .inr ⟨h1,.inr (.inr (.inr (.inr (.inl ⟨hA',e,cs,by rw[<-Iy h.look];exact h3,fun g=>hK _ _ (h.put _ _ _) (h4 g)⟩))))⟩
 ·rw[hS] at hbS;cases hbS
def aU.kcP{P:Program}{bl:List Nat}{ops:Array Oper}{K:St->Prop}(hA:HY bl=true)(hS:E8 bl=false)(hK:KCP K):∀l:List Oper,KCP (fun s=>aU P bl ops l s K)
 |[]=>hK
 |o::l=>fun _ _ h hs=>iK.congrP hA hS (aU.kcP hA hS hK l) h hs
theorem Vf{o:Oper}(h:iI o=true∨isAl o=true):isSto o=false:=by
 unfold isSto
 split<;>first|rfl|(rename_i heq
                    rcases h with h|h
                    ·unfold iI at h;rw[heq] at h;cases h
                    ·unfold isAl at h;rw[heq] at h;cases h)
def iK.laterA{P:Program}{bl:List Nat}{ops:Array Oper}{p:Oper}{s:St}{K:St->Prop}{dst:Option Nat}{u:Value}{E:List aC}(hA:HY bl=true)(hS:E8 bl=false)(hp:iI p=true∨isAl p=true)(hM:H5 bl=false)
 (hd:∀d,dst=some d->d<s.nt)(hl:∀d,dst=some d->d∉p.looksAt ops)(hne:∀d,p.dst=some d->dst≠some d)
 (h:iK P bl ops p s (fun s1=>∀s2,sJ (({s1 with L:=s1.L++E}:St).put dst u) s2->K s2)):iK P bl ops p (({s with L:=s.L++E}:St).put dst u) K:=by
 have hns:∀cs b,p.op≠ .select cs b:=fun cs b e=>by
  rcases hp with hp|hp
  ·unfold iI at hp;rw[e] at hp;cases hp
  ·unfold isAl at hp;rw[e] at hp;cases hp
 have hn:(({s with L:=s.L++E}:St).put dst u).nt=s.nt:=by cases dst<;>rfl
 have hLL:(({s with L:=s.L++E}:St).put dst u).L=s.L++E:=by cases dst<;>rfl
 have comm:∀(x:Value) (new:List aC),sJ (({(({s with L:=s.L++new}:St).put p.dst x) with L:=(({s with L:=s.L++new}:St).put p.dst x).L++E}:St).put dst u)
  (({(({s with L:=s.L++E}:St).put dst u) with L:=(({s with L:=s.L++E}:St).put dst u).L++new}:St).put p.dst x):=by
  intro x new;have e1:(({s with L:=s.L++new}:St).put p.dst x).L=s.L++new:=by cases p.dst<;>rfl
  refine⟨?_,?_,?_⟩
  ·cases p.dst<;>cases dst<;>rfl
  ·have a1:=(Ve ({(({s with L:=s.L++new}:St).put p.dst x) with L:=(({s with L:=s.L++new}:St).put p.dst x).L++E}:St) dst u).trans (congrArg (· ++E) (Ve ({s with L:=s.L++new}:St) p.dst x))
   have a2:=(Ve ({(({s with L:=s.L++E}:St).put dst u) with L:=(({s with L:=s.L++E}:St).put dst u).L++new}:St) p.dst x).trans (congrArg (· ++new) (Ve ({s with L:=s.L++E}:St) dst u))
   have a3:List.Perm (s.L++new++E) (s.L++E++new):=by
    rw[List.append_assoc,List.append_assoc];exact List.Perm.append_left _ List.perm_append_comm
   exact(List.Perm.of_eq a1).trans (a3.trans (List.Perm.of_eq a2.symm))
  ·intro d;cases hp:p.dst with
   |none=>cases dst<;>simp[St.put]
   |some dp=>
    cases dst with
    |none=>simp[St.put]
    |some di=>
     have hne':di≠dp:=fun e=>hne dp hp (by rw[e])
     simp only[St.put]
     by_cases e1:di=d
     ·subst e1;rw[dR,bY (Ne.symm hne'),dR]
     ·rw[bY e1]
      by_cases e2:dp=d
      ·subst e2;rw[dR,dR]
      ·rw[bY e2,bY e2,bY e1]
 obtain⟨h0,g,hg,hh⟩:=h;refine⟨by rw[hn];exact h0,g,?_,?_⟩
 ·have:=qR (ops:=ops) (o:=p) (s:={s with L:=s.L++E}) (dst:=dst) (v:=u) hl
  rw[this];exact hg
 have c0:∀(x:Value),(({s with L:=s.L++[]}:St).put p.dst x)=s.put p.dst x:=fun x=>by simp
 have c1:∀(x:Value),({(({s with L:=s.L++E}:St).put dst u) with L:=(({s with L:=s.L++E}:St).put dst u).L++[]}:St).put p.dst x=(({s with L:=s.L++E}:St).put dst u).put p.dst x:=fun x=>by simp
 have comm0:∀(x:Value),sJ (({s.put p.dst x with L:=(s.put p.dst x).L++E}:St).put dst u) ((({s with L:=s.L++E}:St).put dst u).put p.dst x):=fun x=>by
  have:=comm x [];rw[c0,c1] at this;exact this
 have back:∀(B:Bs) (a:Act) (w:World),kH B (({s with L:=s.L++E}:St).put dst u) a w->∃v,kH B s (a.put dst v) w∧execOp (a.put dst v).eval p=execOp a.eval p:=fun B a w hr=>by
  obtain⟨v,hv⟩:=kH.putBack (s:=s) (new:=E) hd hr;exact⟨v,hv,execOp_put p hns a dst v hl⟩
 rcases hh with⟨h1,h2⟩|⟨h1,⟨h2,sv,h3,h4⟩|⟨h2,X,res,new,h3,hF,h4⟩|⟨hm,hA',hm',X,nx,h3,h4⟩|⟨hm,hd',L',h3,h5,h4⟩|⟨hA',e,cs,h3,h4⟩|⟨hC,hbS,X,res,nL,h3,h5,h4⟩⟩
 ·exact .inl ⟨h1,h2 _ (comm0 _)⟩
 ·refine .inr ⟨h1,.inl ⟨h2,sv,⟨fun B a w hr=>?_,fun h5 h6=>by rw[Az (s:={s with L:=s.L++E}) hl];exact h3.2 h5 h6⟩,h4 _ (comm0 _)⟩⟩
  have h3:=h3.1;rw[Oq hS] at hr h3;obtain⟨v,hv,he⟩:=back B a w hr;have:=h3 B _ w hv
  rwa [he] at this
 ·obtain⟨hF1,hX⟩:=hF hA;have hFl:DJ P p (({s with L:=s.L++E}:St).put dst u) X res new:=fun B a w hr=>by
   obtain⟨v,hv,he⟩:=back B a w hr;have:=hF1 B _ w hv
   rwa [he] at this
  refine .inr ⟨h1,.inr (.inl ⟨h2,X,res,new,fun B a w hr=>?_,fun _=>⟨hFl,hX⟩,fun x=>h4 x _ (comm _ _)⟩)⟩
  obtain⟨f,args,r1,r2⟩:=hFl B a w hr;refine⟨f,args,r1,r2.mono ?_⟩;rintro e w' ⟨x,rfl,hx,hown⟩;exact⟨x,rfl,hr.mem.joinF hx hown⟩
 ·exfalso
  rcases hp with hp|hp
  ·rw[hM,show Ob bl p=true by simp[Ob,hp]] at hm;cases hm
  ·rw[hA,hp] at hA';cases hA'
 ·rw[Vf hp] at hm;cases hm
 ·exact .inr ⟨h1,.inr (.inr (.inr (.inr (.inl ⟨hA',e,cs,by rw[Iw (s:={s with L:=s.L++E}) hl];exact h3,fun g=>h4 g _ (comm _ _)⟩))))⟩
 ·rw[hS] at hbS;cases hbS
theorem iK.some{P:Program}{bl:List Nat}{ops:Array Oper}{p:Oper}{s:St}{K:St->Prop}(hS:E8 bl=false)(hA:HY bl=true)(hp:iI p=true∨isAl p=true)(hM:H5 bl=false)(h:iK P bl ops p s K):
 ∃x new,K (({s with L:=s.L++new}:St).put p.dst x):=by
 obtain⟨h0,g,hg,hh⟩:=h;rcases hh with⟨h1,h2⟩|⟨h1,⟨h2,sv,h3,h4⟩|⟨h2,X,res,new,h3,hF,h4⟩|⟨hm,hA',hm',X,nx,h3,h4⟩|⟨hm,hd',L',h3,h5,h4⟩|⟨hA',e,cs,h3,h4⟩|⟨hC,hbS,X,res,nL,h3,h5,h4⟩⟩
 ·exact⟨undef,[],by simpa using h2⟩
 ·exact⟨sv,[],by simpa using h4⟩
 ·obtain⟨_,⟨x⟩⟩:=hF hA;exact⟨_,_,h4 x⟩
 ·exfalso
  rcases hp with hp|hp
  ·rw[hM,show Ob bl p=true by simp[Ob,hp]] at hm;cases hm
  ·rw[hA,hp] at hA';cases hA'
 ·rw[Vf hp] at hm;cases hm
 ·exact⟨_,_,h4 0⟩
 ·rw[hS] at hbS;cases hbS
def iK.form{P:Program}{bl:List Nat}{ops:Array Oper}{p:Oper}{s:St}{K:St->Prop}(hS:E8 bl=false)(hA:HY bl=true)(hp:iI p=true∨isAl p=true)(hM:H5 bl=false)(h:iK P bl ops p s K):
 iK P bl ops p s (fun s1=>K s1∧∃x new,s1=(({s with L:=s.L++new}:St).put p.dst x)):=by
 obtain⟨h0,g,hg,hh⟩:=h;refine⟨h0,g,hg,?_⟩;rcases hh with⟨h1,h2⟩|⟨h1,⟨h2,sv,h3,h4⟩|⟨h2,X,res,new,h3,hF,h4⟩|⟨hm,hA',hm',X,nx,h3,h4⟩|⟨hm,hd',L',h3,h5,h4⟩|⟨hA',e,cs,h3,h4⟩|⟨hC,hbS,X,res,nL,h3,h5,h4⟩⟩
 ·exact .inl ⟨h1,h2,undef,[],by simp⟩
 ·exact .inr ⟨h1,.inl ⟨h2,sv,h3,h4,sv,[],by simp⟩⟩
 ·exact .inr ⟨h1,.inr (.inl ⟨h2,X,res,new,h3,hF,fun x=>⟨h4 x,_,_,rfl⟩⟩)⟩
 ·exfalso
  rcases hp with hp|hp
  ·rw[hM,show Ob bl p=true by simp[Ob,hp]] at hm;cases hm
  ·rw[hA,hp] at hA';cases hA'
 ·rw[Vf hp] at hm;cases hm
 ·exact .inr ⟨h1,.inr (.inr (.inr (.inr (.inl ⟨hA',e,cs,h3,fun g=>⟨h4 g,_,_,rfl⟩⟩))))⟩
 ·rw[hS] at hbS;cases hbS
def aU.swapA{P:Program}{bl:List Nat}{ops:Array Oper}{p i:Oper}{rest:List Oper}{s:St}{K:St->Prop}(hA:HY bl=true)(hS:E8 bl=false)(hM:H5 bl=false)(hK:KCP K)(hp:iI p=true∨isAl p=true)(hi:isAl i=true)
 (hap:p.apart ops i=true)(h:aU P bl ops (p::i::rest) s K):aU P bl ops (i::p::rest) s K:=by
 obtain⟨ap1,ap2,ap3⟩:=Oper.apart_spec hap;have h':iK P bl ops p s (fun s'=>iK P bl ops i s' (fun s2=>aU P bl ops rest s2 K)):=h;have hne:∀d,p.dst=some d->i.dst≠some d:=ap2;have hw:∀(x:Value) (new:List aC),au ops i (({s with L:=s.L++new}:St).put p.dst x).t=au ops i s.t:=fun x new=>qR (s:={s with L:=s.L++new}) ap1
 have hci:jA i=false:=by
  unfold isAl at hi;unfold jA
  split at hi
  ·rename_i heq;rw[heq]
  ·rename_i heq;rw[heq]
  ·cases hi
 have what:∀{s1:St},iK P bl ops i s1 (fun s2=>aU P bl ops rest s2 K)->(∃x new,s1=(({s with L:=s.L++new}:St).put p.dst x))->
  (∀d,i.dst=some d->d<s.nt)∧((au ops i s.t=some false∧aU P bl ops rest (s1.put i.dst undef) K)∨
 (au ops i s.t=some true∧∃e cs,yZ P s.t i=some (e,cs)∧∀g,aU P bl ops rest (({s1 with L:=s1.L++[alB g e cs]}:St).put i.dst (alV i g)) K)):=by
  rintro s1 ⟨k0,g,hk,hh⟩ ⟨x,new,rfl⟩;rw[hw] at hk;refine⟨fun d hd=>by have:=k0 d hd;rwa [show(({s with L:=s.L++new}:St).put p.dst x).nt=s.nt by cases p.dst<;>rfl] at this,?_⟩
  rcases hh with⟨rfl,h2⟩|⟨rfl,⟨h2,sv,h3,h4⟩|⟨h2,X,res,new,h3,hF,h4⟩|⟨hm,hA',hm',X,nx,h3,h4⟩|⟨hm,hd',L',h3,h5,h4⟩|⟨hA',e,cs,h3,h4⟩|⟨hC,hbS,X,res,nL,h3,h5,h4⟩⟩
  ·exact .inl ⟨hk,h2⟩
  ·rw[hA,hi] at h2;cases h2
  ·rw[hci] at h2;cases h2
  ·rw[hA,hi] at hA';cases hA'
  ·rw[Vf (.inr hi)] at hm;cases hm
  ·exact .inr ⟨hk,e,cs,by rw[<-Iw (s:={s with L:=s.L++new}) ap1];exact h3,h4⟩
  ·rw[hS] at hbS;cases hbS
 have hf:=h'.form hS hA hp hM;obtain⟨x0,new0,k0,kf⟩:=hf.some hS hA hp hM;obtain⟨hb,hcase⟩:=what k0 kf;rcases hcase with⟨hk,_⟩|⟨hk,e,cs,hal,_⟩
 ·refine⟨hb,false,hk,.inl ⟨rfl,?_⟩⟩;have e:s.put i.dst undef=({s with L:=s.L++[]}:St).put i.dst undef:=by simp
  rw[e];refine iK.laterA hA hS hp hM hb ap3 hne (hf.mono ?_);rintro s1 ⟨hs1,hform⟩ s2 he;rcases(what hs1 hform).2 with⟨_,h2⟩|⟨h2,_⟩
  ·refine aU.kcP hA hS hK rest _ _ he ?_;have e:s1.put i.dst undef=({s1 with L:=s1.L++[]}:St).put i.dst undef:=by simp
   rw[<-e];exact h2
  ·rw[hk] at h2;cases h2
 ·refine⟨hb,true,hk,.inr ⟨rfl,.inr (.inr (.inr (.inr (.inl ⟨hi,e,cs,hal,fun gg=>?_⟩))))⟩⟩;refine iK.laterA hA hS hp hM hb ap3 hne (hf.mono ?_);rintro s1 ⟨hs1,hform⟩ s2 he;rcases(what hs1 hform).2 with⟨h2,_⟩|⟨_,e',cs',hal',h2⟩
  ·rw[hk] at h2;cases h2
  ·rw[hal] at hal';cases hal';exact aU.kcP hA hS hK rest _ _ he (h2 gg)
def XA{o:Oper}(hi:y5 o=true):iI o=true∧jA o=false∧isAl o=false∧isSto o=false:=by
 unfold y5 at hi
 split at hi
 ·rename_i heq;exact⟨by unfold iI;rw[heq],by unfold jA;rw[heq],by unfold isAl;rw[heq],by unfold isSto;rw[heq]⟩
 ·rename_i heq;exact⟨by unfold iI;rw[heq],by unfold jA;rw[heq],by unfold isAl;rw[heq],by unfold isSto;rw[heq]⟩
 ·rename_i heq;exact⟨by unfold iI;rw[heq],by unfold jA;rw[heq],by unfold isAl;rw[heq],by unfold isSto;rw[heq]⟩
 ·cases hi
def aU.swapQ{P:Program}{bl:List Nat}{ops:Array Oper}{p i:Oper}{rest:List Oper}{s:St}{K:St->Prop}(hA:HY bl=true)(hS:E8 bl=false)(hM:H5 bl=false)(hK:KCP K)(hp:isSto p=true∨isAl p=true)(hpg:p.guard=none)(hi:y5 i=true)
 (hap:p.apart ops i=true)(h:aU P bl ops (p::i::rest) s K):aU P bl ops (i::p::rest) s K:=by
 obtain⟨ap1,ap2,ap3⟩:=Oper.apart_spec hap;have h':iK P bl ops p s (fun s'=>iK P bl ops i s' (fun s2=>aU P bl ops rest s2 K)):=h;obtain⟨h0,g,hg,hh⟩:=h';have hg1:g=true:=by
  unfold au at hg;rw[hpg] at hg;simpa using hg.symm
 subst hg1;have hnp:(HY bl&&(isAl p||isSto p))=false->False:=fun h1=>by rcases hp with hp|hp<;>rw[hA,hp] at h1<;>simp at h1
 have hcp:jA p=false:=by
  rcases hp with hp|hp
  ·unfold isSto at hp
   split at hp<;>first|(cases hp;done)|(rename_i heq;unfold jA;rw[heq])
  ·unfold isAl at hp
   split at hp
   ·rename_i heq;unfold jA;rw[heq]
   ·rename_i heq;unfold jA;rw[heq]
   ·cases hp
 obtain⟨m1,m2,m3,m4⟩:=XA hi;have hns:∀cs b,p.op≠ .select cs b:=fun cs b e=>by
  rcases hp with hp|hp
  ·unfold isSto at hp;rw[e] at hp;cases hp
  ·unfold isAl at hp;rw[e] at hp;cases hp
 have hwp:∀s':St,au ops p s'.t=some true:=fun s'=>by unfold au;rw[hpg]
 have what:∀{s1:St},iK P bl ops i s1 (fun s2=>aU P bl ops rest s2 K)->s1.nt=s.nt->(au ops i s1.t=au ops i s.t)->mZ P s1.t i=mZ P s.t i->
  (∀d,i.dst=some d->d<s.nt)∧((au ops i s.t=some false∧aU P bl ops rest (s1.put i.dst undef) K)∨(au ops i s.t=some true∧∃v,mZ P s.t i=some v∧aU P bl ops rest (s1.put i.dst v) K)):=by
  rintro s1 ⟨k0,gi,hgi,kk⟩ e1 e2 e3;rw[e2] at hgi;refine⟨fun d hd=>by rw[<-e1];exact k0 d hd,?_⟩;rcases kk with⟨h1,h2⟩|⟨h1,⟨h2,sv,q3,q4⟩|⟨h2,X,res,new,q3,hF,q4⟩|⟨qm,hA',qm',X,nx,q3,q4⟩|⟨qm,qd,L'',q3,q5,q4⟩|⟨hA',e,cs,q3,q4⟩|⟨hC,hbS,X,res,nL,q3,q5,q4⟩⟩
  ·exact .inl ⟨by rw[hgi,h1],h2⟩
  ·exact .inr ⟨by rw[hgi,h1],sv,by rw[<-e3];exact q3.2 hA hi,q4⟩
  ·rw[m2] at h2;cases h2
  ·rw[hM,show Ob bl i=true by simp[Ob,m1]] at qm;cases qm
  ·rw[m4] at qm;cases qm
  ·rw[m3] at hA';cases hA'
  ·rw[hS] at hbS;cases hbS
 have ahead:∀(v:Value),(au ops i s.t=some false∧v=undef∨au ops i s.t=some true∧mZ P s.t i=some v)->(∀d,i.dst=some d->d<s.nt)->aU P bl ops (p::rest) (s.put i.dst v) K->aU P bl ops (i::p::rest) s K:=by
  intro v hv hb hr;rcases hv with⟨h1,rfl⟩|⟨h1,h2⟩
  ·exact⟨hb,false,h1,.inl ⟨rfl,hr⟩⟩
  ·exact⟨hb,true,h1,.inr ⟨rfl,.inl ⟨by rw[m3,m4];simp,v,⟨by rw[Oq hS];exact P6 h2,fun _ _=>h2⟩,hr⟩⟩⟩
 rcases hh with⟨h1,_⟩|⟨_,⟨h2,sv,h3,h4⟩|⟨h2,X,res,new,h3,hF,h4⟩|⟨hm,hA',hm',X,nx,h3,h4⟩|⟨hm,hd,L',h3,h5,h4⟩|⟨hA',e,cs,h3,h4⟩|⟨hC,hbS,X,res,nL,h3,h5,h4⟩⟩
 ·cases h1
 ·exact(hnp h2).elim
 ·rw[hcp] at h2;cases h2
 ·exact(hnp hA').elim
 ·
  obtain⟨hb,hc⟩:=what h4 rfl rfl rfl;have behind:∀(v:Value),aU P bl ops rest ((({s with L:=L'}:St)).put i.dst v) K->aU P bl ops (p::rest) (s.put i.dst v) K:=by
   intro v hr;refine⟨fun d hd'=>(by rw[hd] at hd';cases hd'),true,hwp _,.inr ⟨rfl,.inr (.inr (.inr (.inl ⟨hm,hd,L',fun B a w hrel=>?_,(fun hb=>by rw[hS] at hb;cases hb),?_⟩)))⟩⟩
   ·have hrel':kH B (({s with L:=s.L++[]}:St).put i.dst v) a w:=by simpa using hrel
    obtain⟨u,hu⟩:=kH.putBack (s:=s) (new:=[]) hb hrel';have:=h3 B _ w hu
    rwa [execOp_put p hns a i.dst u ap3] at this
   ·have e:({s.put i.dst v with L:=L'}:St)=(({s with L:=L'}:St)).put i.dst v:=by cases i.dst<;>rfl
    rw[e];exact hr
  rcases hc with⟨c1,c2⟩|⟨c1,v,c2,c3⟩
  ·exact ahead undef (.inl ⟨c1,rfl⟩) hb (behind _ c2)
  ·exact ahead v (.inr ⟨c1,c2⟩) hb (behind _ c3)
 ·
  have hs1:∀gg,(({s with L:=s.L++[alB gg e cs]}:St).put p.dst (alV p gg)).nt=s.nt:=fun gg=>by cases p.dst<;>rfl
  have hw1:∀gg,au ops i (({s with L:=s.L++[alB gg e cs]}:St).put p.dst (alV p gg)).t=au ops i s.t:=fun gg=>qR (s:={s with L:=s.L++[alB gg e cs]}) ap1
  have hv1:∀gg,mZ P (({s with L:=s.L++[alB gg e cs]}:St).put p.dst (alV p gg)).t i=mZ P s.t i:=fun gg=>Az (s:={s with L:=s.L++[alB gg e cs]}) ap1
  have hp2:iI p=true∨isAl p=true:= .inr hA';have hpi:∀d,p.dst=some d->i.dst≠some d:=ap2;have behind:∀(v:Value),(∀d,i.dst=some d->d<s.nt)->(∀gg,aU P bl ops rest ((({s with L:=s.L++[alB gg e cs]}:St).put p.dst (alV p gg)).put i.dst v) K)->aU P bl ops (p::rest) (s.put i.dst v) K:=by
   intro v hb hr;have e:s.put i.dst v=({s with L:=s.L++[]}:St).put i.dst v:=by simp
   rw[e];refine iK.laterA (K:=fun s2=>aU P bl ops rest s2 K) hA hS hp2 hM hb ap3 hpi ⟨h0,true,hg,.inr ⟨rfl,.inr (.inr (.inr (.inr (.inl ⟨hA',_,cs,h3,fun gg s2 he=>?_⟩))))⟩⟩;refine aU.kcP hA hS hK rest _ _ he ?_;have:=hr gg
   simpa using this
  obtain⟨hb,hc⟩:=what (h4 0) (hs1 0) (hw1 0) (hv1 0);rcases hc with⟨c1,_⟩|⟨c1,v,c2,_⟩
  ·refine ahead undef (.inl ⟨c1,rfl⟩) hb (behind _ hb fun gg=>?_);rcases(what (h4 gg) (hs1 gg) (hw1 gg) (hv1 gg)).2 with⟨_,d2⟩|⟨d1,_⟩
   ·exact d2
   ·rw[c1] at d1;cases d1
  ·refine ahead v (.inr ⟨c1,c2⟩) hb (behind _ hb fun gg=>?_);rcases(what (h4 gg) (hs1 gg) (hw1 gg) (hv1 gg)).2 with⟨d1,_⟩|⟨_,v',d2,d3⟩
   ·rw[c1] at d1;cases d1
   ·rw[c2] at d2;cases d2;exact d3
 ·rw[hS] at hbS;cases hbS
def IR(bl:List Nat)(ops:Array Oper)(op oi:Oper):Bool:=
 op.apart ops oi&&(((iI op&&uU bl oi&& !jA op)||(isAl oi&&(iI op||isAl op)))||((isSto op||isAl op)&&y5 oi&&op.guard.isNone))
def aU.frontA{P:Program}{bl:List Nat}{ops:Array Oper}{i:Oper}{post:List Oper}{K:St->Prop}(hA:HY bl=true)(hS:E8 bl=false)(hM:H5 bl=false)(hK:KCP K):∀{pre:List Oper} {s:St},
 (∀p∈pre,IR bl ops p i=true)->aU P bl ops (pre++i::post) s K->aU P bl ops (i::(pre++post)) s K
 |[],s,_,h=>h
 |p::pre,s,hp,h=>by
  have h1:iK P bl ops p s (fun s'=>aU P bl ops (pre++i::post) s' K):=h;have h2:aU P bl ops (p::i::(pre++post)) s K:=by
   refine iK.mono ?_ h1;intro s' hr;exact aU.frontA hA hS hM hK (fun q hq=>hp q (by simp[hq])) hr
  have hpp:=hp p (by simp);simp only[IR,Bool.and_eq_true,Bool.or_eq_true,Bool.not_eq_true'] at hpp;obtain⟨ha,(⟨⟨hm,hf⟩,hc⟩|⟨hi,hm⟩)|⟨⟨hs,hi⟩,hg⟩⟩:=hpp
  ·exact aU.swap (hK.kc) hm hf hc ha h2
  ·exact aU.swapA hA hS hM hK hm hi ha h2
  ·exact aU.swapQ hA hS hM hK hs (by simpa using hg) hi ha h2
def DZ(bl:List Nat)(ops:Array Oper)(p i:Nat):Bool:=
 waitsF ops ops.size i p||
 match ops[p]?,ops[i]? with
 |some op,some oi=>IR bl ops op oi
 |_,_=>false
def zi(bl:List Nat)(ops:Array Oper)(perm:List Nat):Bool:=
 decide (perm.length=ops.size)&&perm.all (fun i=>decide (i<ops.size))&&(List.range ops.size).all (fun i=>perm.contains i)&&
 iL (DZ bl ops) perm&&iL (jl ops) perm&&perm.all (fun i=>jl ops i i)&&perm.all (fun i=>qA ops i)&&iL (fun i j=>i !=j) perm&&HY bl&& !E8 bl&& !H5 bl
def KR{P:Program}{bl:List Nat}{ops:Array Oper}{Q:Exit->Act->World->Prop}{K:St->Prop}{B:Bs}(hA:HY bl=true)(hS:E8 bl=false)(hM:H5 bl=false)(hK:KCP K)(hpost:∀s' a' w',K s'->kH B s' a' w'->Q .normal a' w'):
 ∀(n:Nat) (l:List Nat) (listed:Array Bool) (s:St) (a:Act) (w:World),l.length=n->TE ops l->l.Pairwise (fun p i=>DZ bl ops p i=true)->listed.size=ops.size->
  (∀j,j<ops.size->(listed.getD j true=false↔j∈l))->Oc ops listed->aU P bl ops (l.map fun i=>ops.getD i default) s K->kH B s a w->
  wpAny P .any ops Q n listed a w:=by
 intro n
 induction n with
 |zero=>
  intro l listed s a w hn ho hok hsz hl hc hr h;have:l=[]:=List.eq_nil_of_length_eq_zero hn;subst this;refine⟨?_,hpost _ _ _ hr h⟩;rcases hh:Region.ready .any ops listed with _|⟨i,r⟩
  ·rfl
  ·exfalso
   obtain⟨h1,o,ho',_⟩:=mem_ready.1 (show i∈Region.ready .any ops listed by rw[hh];simp);have:=(hl i (Array.getElem?_eq_some_iff.1 ho').1).1 h1;simp at this
 |succ n ih=>
  intro l listed s a w hn ho hok hsz hl hc hr h;refine⟨fun h0=>?_,fun i hi=>?_⟩
  ·exfalso
   cases l with
   |nil=>simp at hn
   |cons i0 rest=>
    have hi0:=ho.lt i0 (by simp);have:i0∈Region.ready .any ops listed:=by
     refine mem_ready.2 ⟨(hl i0 hi0).2 (by simp),ops[i0],Array.getElem?_eq_getElem hi0,fun e he hb=>?_⟩
     rcases hx:listed.getD e.on false with _|_
     ·exfalso
      have hself:=ho.self i0 (by simp);have hnw:∀j,j∈rest->jl ops i0 j=true:=fun j hj=>(List.pairwise_cons.1 ho.nw).1 j hj
      have key:∀j,jl ops i0 j=true->e.on≠j:=fun j hj e'=>by
       unfold jl at hj;rw[Array.getElem?_eq_getElem hi0] at hj;have:=(Array.all_eq_true'.1 hj) e he;simp[hb,e'] at this
      rcases Nat.lt_or_ge e.on ops.size with hlt|hge
      ·have hun:listed.getD e.on true=false:=by
        have:e.on<listed.size:=(by rw[hsz];exact hlt);simp[this] at hx ⊢;exact hx
       have:=(hl e.on hlt).1 hun;rcases List.mem_cons.1 this with h1|h1
       ·exact key i0 hself h1
       ·exact key e.on (hnw _ h1) rfl
      ·have hj:=ho.ed i0 (by simp);unfold qA at hj;rw[Array.getElem?_eq_getElem hi0] at hj;have:=(Array.all_eq_true'.1 hj) e he;simp[hb] at this;omega
     ·rfl
    rw[h0] at this;cases this
  ·obtain⟨hun,oi,hoi,hall⟩:=mem_ready.1 hi;have hilt:=(Array.getElem?_eq_some_iff.1 hoi).1;have hil:i∈l:=(hl i hilt).1 hun;obtain⟨pre,post,rfl⟩:=List.append_of_mem hil;have hoid:ops.getD i default=oi:=by simp[hoi]
   have hpre:∀p∈pre,∃op,ops[p]? =some op∧IR bl ops op oi=true:=by
    intro p hp;have hpo:DZ bl ops p i=true:=(List.pairwise_append.1 hok).2.2 p hp i (by simp);unfold DZ at hpo;rw[Bool.or_eq_true] at hpo;rcases hpo with hpo|hpo
    ·exfalso
     have h1:=qw hc hpo (fun o ho' e he hb=>by rw[hoi] at ho';cases ho';exact hall e he hb);have hplt:=ho.lt p (by simp[hp]);have h2:=(hl p hplt).2 (by simp[hp]);rw[Oe h2] at h1;cases h1
    ·rw[hoi] at hpo;cases hop:ops[p]? with
     |none=>rw[hop] at hpo;cases hpo
     |some op=>rw[hop] at hpo;exact⟨op,rfl,hpo⟩
   have hrun:aU P bl ops (oi::((pre++post).map fun i=>ops.getD i default)) s K:=by
    rw[List.map_append] at hr ⊢;rw[List.map_cons,hoid] at hr;refine aU.frontA hA hS hM hK ?_ hr;intro q hq;obtain⟨p,hp,rfl⟩:=List.mem_map.1 hq;obtain⟨op,hop,h1⟩:=hpre p hp;have:ops.getD p default=op:=by simp[hop]
    rw[this];exact h1
   have hsub:(pre++post).Sublist (pre++i::post):=List.Sublist.append (List.Sublist.refl _) (List.sublist_cons_self _ _);have hnd:=ho.nodup;have hinot:i∉pre++post:=by
    intro hm;have:=List.nodup_append.1 hnd;rcases List.mem_append.1 hm with h1|h1
    ·exact this.2.2 i h1 i (by simp) rfl
    ·exact(List.nodup_cons.1 this.2.1).1 h1
   unfold wpOp;rw[hoi];dsimp only;have hS':=iK.sound (K':=wpAny P .any ops Q n (listed.setIfInBounds i true)) (Q:=Q) hrun h (fun s' a' w' hk hrel=>by
 refine ih (pre++post) (listed.setIfInBounds i true) s' a' w' ?_ (ho.sub hsub) (hok.sublist hsub) (by simpa using hsz) ?_ ?_ hk hrel
 ·simp at hn ⊢;omega
 ·intro j hj
  by_cases hij:i=j
  ·subst hij;have:i<listed.size:=by rw[hsz];exact hilt
   simp[this]
   simpa using hinot
  ·rw[getD_set_ne true hij,hl j hj];simp[Ne.symm hij]
 ·intro j hj o hoj e he hb
  by_cases hij:i=j
  ·subst hij;rw[hoi] at hoj;cases hoj;exact getD_set_true (hall e he hb)
  ·rw[getD_set_ne false hij] at hj;exact getD_set_true (hc j hj o hoj e he hb))
   split
   ·rename_i hw;rw[if_pos hw] at hS';exact .inl hS'
   ·rename_i hw;rw[if_neg hw] at hS';exact hS'
def At.kcp{B:Bs}{X:Act->World->Prop}:KCP (fun s=>At B s X):=fun s s' he h a w hr=>h a w (he.rel hr)
def Fp{P:Program}{B:Bs}{Q:Exit->Act->World->Prop}{s:St}{id:Nat}{l l':List Oper}(bl perm:List Nat)(hm:P.follows .mixedOrders=true)(hc:zi bl l.toArray perm=true)(hl:perm.map (fun i=>l.toArray.getD i default)=l')
 (h:aU P bl l.toArray l' s (fun s'=>At B s' (Q .normal))):At B s ((Code.region id l.toArray true).wp P Q):=fun a w hr=>by
 simp only[zi,Bool.and_eq_true,decide_eq_true_eq,Bool.not_eq_true'] at hc;obtain⟨⟨⟨⟨⟨⟨⟨⟨⟨⟨hlen,hlt⟩,hall⟩,hpo⟩,hnw⟩,hself⟩,hed⟩,hnd⟩,hA⟩,hS⟩,hM⟩:=hc;have hOrd:TE l.toArray perm:=⟨fun i hi=>of_decide_eq_true (List.all_eq_true.1 hlt i hi),gY hnw,fun i hi=>List.all_eq_true.1 hself i hi,fun i hi=>List.all_eq_true.1 hed i hi,(gY hnd).imp (fun h=>by simpa using h)⟩
 subst hl;refine wp_region_any hm ?_;refine KR hA hS hM At.kcp (B:=B) (fun s' a' w' h1 h2=>h1 a' w' h2) l.toArray.size perm _ s a _ hlen hOrd (gY hpo) (by simp) ?_ ?_ h hr.drew
 ·intro j hj;have:j∈perm:=by
   have:=List.all_eq_true.1 hall j (List.mem_range.2 hj)
   simpa using this
  have hj':j<l.length:=(by simpa using hj);simp[hj',this]
 ·intro j hj
  exfalso
  rcases Nat.lt_or_ge j l.length with h1|h1
  ·simp[h1] at hj
  ·simp[h1] at hj
end Go.Via
namespace Go.Via
variable[Mo]
open Go Go.RowKit
def IU{P:Program}{B:Bs}{fn:Func}{R:Ending->World->Prop}{s:St}(hfn:fn.results= #[])(hR:∀w,aV B s.L w->R (.returned (.tuple #[])) w)(hD:B.D=[]:=by first|rfl|assumption):At B s (bodyPost P fn R .normal):=fun a w hr=>
 ⟨hr.df.trans hD,.tuple #[],by simp[results,hfn],hR w hr.mem⟩
def BM(P:Program)(f:Nat)(L0:List aC)(args:List Value)(X:Type)(res:X->Value)(L1:X->List aC):Prop:=
 iM P f=true∧∀(B:Bs) (w:World),B.D=[]->aV B L0 w->Calls P f args.toArray w fun e w'=>∃x,e= .returned (res x)∧aV B (L1 x) w'
section
variable{P:Program}{bl:List Nat}{ops:Array Oper}{K:St->Prop}{rest:List Oper}{nt:Nat}{t:List (Nat×Value)}{L:List aC}{d:Nat}{ty:TypeId}{pos:String}{af:Array Edge}{g:Option (Nat×Bool)}{x y:Operand}
def TG{f:Nat}{v:Value}(hd:Nat.blt d nt=true)(hg:au ops ⟨some d,.makeFunc (.func f) #[] #[x],ty,pos,af,g⟩ t=some true)(hx:ev t x=some v)(h:aU P bl ops rest ⟨nt,(d,.func (.func f) #[] #[v])::t,L⟩ K):
 aU P bl ops (⟨some d,.makeFunc (.func f) #[] #[x],ty,pos,af,g⟩::rest) ⟨nt,t,L⟩ K:=
 fG hd hg rfl (fun B a w hr=>by simp[execOp,Instr.makeFunc,hr.ev hx]) h
end
end Go.Via
namespace Go.Via
variable[Mo]
open Go Go.RowKit
def qg2(ms:List Nat)(l:List Edge):Nat:=l.foldl (fun m e=>if Region.binds .any e then m|||((1<<<e.on)|||ms.getD e.on 0) else m) 0
def TJ(ops:Array Oper)(ms:List Nat):Bool:=(List.range ops.size).all fun i=>match ops[i]? with
 |some o=>(o.after.toList.all fun e=> !Region.binds .any e||decide (e.on<i))&&ms.getD i 0==qg2 ms o.after.toList
 |none=>true
def LQ{ms:List Nat}{j:Nat}:∀{l:List Edge} {m:Nat},Nat.testBit (l.foldl (fun m e=>if Region.binds .any e then m|||((1<<<e.on)|||ms.getD e.on 0) else m) m) j=true->
 Nat.testBit m j=true∨∃e∈l,Region.binds .any e=true∧(e.on=j∨Nat.testBit (ms.getD e.on 0) j=true)
 |[],m,h=> .inl h
 |e::l,m,h=>by
  rw[List.foldl_cons] at h;rcases LQ h with h|⟨e',h1,h2⟩
  ·split at h
   ·rename_i hb
    rw[Nat.testBit_or,Nat.testBit_or,Bool.or_eq_true,Bool.or_eq_true] at h;rcases h with h|h|h
    ·exact .inl h
    ·refine .inr ⟨e,by simp,hb,.inl ?_⟩;rw[Nat.testBit_shiftLeft] at h;simp only[Bool.and_eq_true,decide_eq_true_eq] at h;have h3:=h.2
     by_cases c:j-e.on=0
     ·omega
     ·exfalso
      obtain⟨k,hk⟩:∃k,j-e.on=k+1:=⟨j-e.on-1,by omega⟩;rw[hk,Nat.testBit_succ] at h3;simp at h3
    ·exact .inr ⟨e,by simp,hb,.inr h⟩
   ·exact .inl h
  ·exact .inr ⟨e',by simp[h1],h2⟩
def CE{ops:Array Oper}{ms:List Nat}(hm:TJ ops ms=true):∀(f i j:Nat),i<f->i<ops.size->Nat.testBit (ms.getD i 0) j=true->waitsF ops f i j=true
 |0,i,j,h,_,_=>by omega
 |f+1,i,j,h,hi,hb=>by
  have h1:=List.all_eq_true.1 hm i (List.mem_range.2 hi);rw[Array.getElem?_eq_getElem hi] at h1;simp only[Bool.and_eq_true,beq_iff_eq] at h1;obtain⟨h2,h3⟩:=h1;rw[h3] at hb;unfold waitsF;rw[Array.getElem?_eq_getElem hi];rcases LQ hb with hb|⟨e,he,hbe,hj⟩
  ·simp at hb
  ·have hlt:e.on<i:=by
    have:=List.all_eq_true.1 h2 e he;rw[hbe] at this
    simpa using this
   refine Array.any_eq_true'.2 ⟨e,by simpa using he,?_⟩;rw[hbe,Bool.true_and,Bool.or_eq_true];rcases hj with hj|hj
   ·exact .inl (by simpa using hj)
   ·exact .inr (CE hm f e.on j (by omega) (by omega) hj)
def qfX(bl:List Nat)(ops:Array Oper)(ms:List Nat)(p i:Nat):Bool:=
 Nat.testBit (ms.getD i 0) p||
 match ops[p]?,ops[i]? with
 |some op,some oi=>iI op&&uU bl oi&& !jA op&&op.apart ops oi
 |_,_=>false
def ZH(bl:List Nat)(ops:Array Oper)(ms:List Nat)(p i:Nat):Bool:=
 Nat.testBit (ms.getD i 0) p||
 match ops[p]?,ops[i]? with
 |some op,some oi=>IR bl ops op oi
 |_,_=>false
def zk{f g:Nat->Nat->Bool}:∀{l:List Nat},(∀p∈l,∀i∈l,f p i=true->g p i=true)->iL f l=true->iL g l=true
 |[],_,_=>rfl
 |p::l,h,hf=>by
  simp only[iL,Bool.and_eq_true] at hf ⊢;exact⟨List.all_eq_true.2 fun i hi=>h p (by simp) i (by simp[hi]) (List.all_eq_true.1 hf.1 i hi),zk (fun p hp i hi=>h p (by simp[hp]) i (by simp[hi])) hf.2⟩
def Qh(bl:List Nat)(ops:Array Oper)(perm:List Nat)(ms:List Nat):Bool:=
 TJ ops ms&&(decide (perm.length=ops.size)&&perm.all (fun i=>decide (i<ops.size))&&(List.range ops.size).all (fun i=>perm.contains i)&&
 iL (qfX bl ops ms) perm&&iL (jl ops) perm&&perm.all (fun i=>jl ops i i)&&perm.all (fun i=>qA ops i)&&iL (IA bl ops) perm&&iL (IB bl ops) perm&&iL (fun i j=>i !=j) perm)
def nV{bl:List Nat}{ops:Array Oper}{perm:List Nat}(ms:List Nat)(h:Qh bl ops perm ms=true):ve bl ops perm=true:=by
 unfold Qh at h;rw[Bool.and_eq_true] at h;obtain⟨hm,h⟩:=h;unfold ve;simp only[Bool.and_eq_true] at h ⊢;obtain⟨⟨⟨⟨⟨⟨⟨⟨⟨h1,h2⟩,h3⟩,h4⟩,h5⟩,h6⟩,h7⟩,h8⟩,h9⟩,h10⟩:=h;refine⟨⟨⟨⟨⟨⟨⟨⟨⟨h1,h2⟩,h3⟩,zk (fun p hp i hi hpi=>?_) h4⟩,h5⟩,h6⟩,h7⟩,h8⟩,h9⟩,h10⟩;have hil:i<ops.size:=of_decide_eq_true (List.all_eq_true.1 h2 i hi);unfold qfX at hpi;unfold rM;rw[Bool.or_eq_true] at hpi ⊢;exact hpi.imp (CE hm _ i p hil hil) id
def LU(bl:List Nat)(ops:Array Oper)(perm:List Nat)(ms:List Nat):Bool:=
 TJ ops ms&&(decide (perm.length=ops.size)&&perm.all (fun i=>decide (i<ops.size))&&(List.range ops.size).all (fun i=>perm.contains i)&&
 iL (ZH bl ops ms) perm&&iL (jl ops) perm&&perm.all (fun i=>jl ops i i)&&perm.all (fun i=>qA ops i)&&iL (fun i j=>i !=j) perm&&HY bl&& !E8 bl&& !H5 bl)
def Vg{bl:List Nat}{ops:Array Oper}{perm:List Nat}(ms:List Nat)(h:LU bl ops perm ms=true):zi bl ops perm=true:=by
 unfold LU at h;rw[Bool.and_eq_true] at h;obtain⟨hm,h⟩:=h;unfold zi;simp only[Bool.and_eq_true] at h ⊢;obtain⟨⟨⟨⟨⟨⟨⟨⟨⟨⟨h1,h2⟩,h3⟩,h4⟩,h5⟩,h6⟩,h7⟩,h8⟩,h9⟩,h10⟩,h11⟩:=h;refine⟨⟨⟨⟨⟨⟨⟨⟨⟨⟨h1,h2⟩,h3⟩,zk (fun p hp i hi hpi=>?_) h4⟩,h5⟩,h6⟩,h7⟩,h8⟩,h9⟩,h10⟩,h11⟩;have hil:i<ops.size:=of_decide_eq_true (List.all_eq_true.1 h2 i hi);unfold ZH at hpi;unfold DZ;rw[Bool.or_eq_true] at hpi ⊢;exact hpi.imp (CE hm _ i p hil hil) id
end Go.Via
namespace Go.Via
variable[Mo]
open Go Go.RowKit
section
variable{P:Program}{bl:List Nat}{ops:Array Oper}{K:St->Prop}{rest:List Oper}{nt:Nat}{t:List (Nat×Value)}{L:List aC}{d:Nat}{ty:TypeId}{pos:String}{af:Array Edge}{g:Option (Nat×Bool)}{x y:Operand}
def qdl{T i:Nat}{v u:Value}(hd:Nat.blt d nt=true)(hg:au ops ⟨some d,.field T x i,ty,pos,af,g⟩ t=some true)(hx:ev t x=some v)(hf:∀w,(Instr.field T v i).run P w= .ok u w)
 (h:aU P bl ops rest ⟨nt,(d,u)::t,L⟩ K):aU P bl ops (⟨some d,.field T x i,ty,pos,af,g⟩::rest) ⟨nt,t,L⟩ K:=
 fG hd hg rfl (fun B a w hrel=>by simp[execOp,hrel.ev hx,hf w]) h
end
end Go.Via
namespace Go.Via
variable[Mo]
open Go Go.RowKit
section
variable{P:Program}{bl:List Nat}{ops:Array Oper}{K:St->Prop}{rest:List Oper}{nt:Nat}{t:List (Nat×Value)}{L:List aC}{d:Nat}{ty:TypeId}{pos:String}{af:Array Edge}{g:Option (Nat×Bool)}{x y z:Operand}
def ZI{T e:Nat}{b:Option Nat}{len cap:Nat}{ki:IntKind}{inf:TI}(l:Nat)(hT:P.underlying T=some (.slice e))(hinf:dP P e inf=true)(hd:Nat.blt d nt=true)(hg:au ops ⟨some d,.slice T x (some y) none none,ty,pos,af,g⟩ t=some true)(hx:ev t x=some (az b 0 len cap))(hy:ev t y=some (.int ki (l:Nat)))(h1:l<=len)
 (h:aU P bl ops rest ⟨nt,(d,az b (if cap=l then 0 else l*inf.size) (len-l) (cap-l))::t,L⟩ K):aU P bl ops (⟨some d,.slice T x (some y) none none,ty,pos,af,g⟩::rest) ⟨nt,t,L⟩ K:=
 fG hd hg rfl (fun B a w hrel=>by
 have he:P.elem T=e:=(by simp[Program.elem,hT]);have hT':P.underlying T=some (.slice (P.elem T)):=(by rw[he];exact hT);have h2:=hrel.ev hx;have h3:=hrel.ev hy;unfold az at h2;have r1:=run_sliceAt_slice (P:=P) w T (.slice (b.map fun g=>⟨g,0,none⟩) len cap) (some (.int ki (l:Nat))) none none hT';rw[run_slice_l (P:=P) w T (b.map fun g=>⟨g,0,none⟩) len cap hT' ki (l:Nat) (by omega) (by omega),he,oD hinf w] at r1;simp only[Result.andThen_ok] at r1;have e1:sliced (b.map fun g=>(⟨g,0,none⟩:Addr)) ((l:Nat):Int).toNat len cap inf.size=az b (if cap=l then 0 else l*inf.size) (len-l) (cap-l):=by
  unfold sliced az;rw[Int.toNat_natCast]
  by_cases hc:cap=l
  ·rw[if_pos hc,if_pos hc]
  ·rw[if_neg hc,if_neg hc];cases b<;>simp[ku]
 rw[e1] at r1;simp[execOp,h2,h3,r1]) h
def Qi{T e:Nat}{b:Option Nat}{len cap off' n' c':Nat}{ki:IntKind}{inf:TI}(l:Nat)(hT:P.underlying T=some (.slice e))(hinf:dP P e inf=true)(hd:Nat.blt d nt=true)(hg:au ops ⟨some d,.slice T x (some y) none none,ty,pos,af,g⟩ t=some true)(hx:ev t x=some (az b 0 len cap))(hy:ev t y=some (.int ki (l:Nat)))(h1:l<=len)(e1:(if cap=l then 0 else l*inf.size)=off')(e2:len-l=n')(e3:cap-l=c')
 (h:aU P bl ops rest ⟨nt,(d,az b off' n' c')::t,L⟩ K):aU P bl ops (⟨some d,.slice T x (some y) none none,ty,pos,af,g⟩::rest) ⟨nt,t,L⟩ K:=by
 subst e1;subst e2;subst e3;exact ZI l hT hinf hd hg hx hy h1 h
def TK{T e off2:Nat}{inf:TypeInfo}{bb:Option Nat}{len cap c2:Nat}{b2:Option Nat}(hT:P.underlying T=some (.slice e))(hi:P.info? e=some inf)(hd:Nat.blt d nt=true)
 (hg:au ops ⟨some d,.call {callee:= .builtin .append,args:= #[x,y],argTypes:= #[T,T]},ty,pos,af,g⟩ t=some true)
 (hx:ev t x=some (az bb 0 len cap))(hcap:len<=cap)(hy:ev t y=some (az b2 off2 0 c2))(h:aU P bl ops rest ⟨nt,(d,az bb 0 len cap)::t,L⟩ K):
 aU P bl ops (⟨some d,.call {callee:= .builtin .append,args:= #[x,y],argTypes:= #[T,T]},ty,pos,af,g⟩::rest) ⟨nt,t,L⟩ K:=
 fG hd hg rfl (fun B a w hr=>by
 have hx':=hr.ev hx;have hy':=hr.ev hy;have hs:Src P inf.size T (az b2 off2 0 c2) 0 [] w:=by
  cases b2 with
  |none=>exact Src.ofNil (P:=P) w hT c2
  |some g2=>exact Src.ofSlice (P:=P) w hT ⟨g2,off2,none⟩ 0 c2 [] (by simp) (fun j u hj=>by simp at hj) (fun u hu=>by cases hu)
 have r1:=run_append_nothing (P:=P) w T T ty e inf hT hi (bb.map fun g=>⟨g,0,none⟩) len cap hcap (az b2 off2 0 c2) hs;have r2:(execOp a.eval ⟨some d,.call {callee:= .builtin .append,args:= #[x,y],argTypes:= #[T,T]},ty,pos,af,g⟩).run P w=((Builtin.append_ #[T,T] ty #[az bb 0 len cap,az b2 off2 0 c2]).run P w).andThen fun v w=> .ok (.value v) w:=by
  simp[execOp,resolve,invoke,builtin,hx',hy']
 rw[r2];unfold az at r1 ⊢;rw[r1];rfl) h
end
end Go.Via
