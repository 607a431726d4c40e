/-
  Part 2 (chapter 32): lemmas, walks. Each theorem states its own conditions.
-/
import Derived.Laws.Small
import Derived.WideKeyEntry
import Derived.Defers
import Derived.Test.YtaffcpfhedadhaaGreatDoorProg
import Derived.Shelf.Strings.Builder1
import Derived.Shelf.Strings.Builder2
import Derived.Shelf.Small.Utf8
import Derived.Shelf.Small.Bits
import Derived.Shelf.Small.Strs
import Derived.Shelf.Small.Wraps
import Derived.Shelf.Strings.BuilderF
import Derived.Shelf.Strconv.Itoa0
import Derived.Shelf.Strings.Search1
import Derived.Shelf.Strings.Prefix
import Derived.Shelf.Strings.Runes
import Derived.Shelf.Strings.AsciiSet
import Derived.Shelf.Bits.Mul64
import Derived.Shelf.Strings.Repeat
import Derived.Shelf.Unicode.DecodeSlow
import Derived.Laws.Externs
import Derived.Lib.ItoaNum
import Derived.Test.YtaffcpfhedadhaaGreatDoorA01
set_option linter.all false
set_option maxRecDepth 20000
set_option maxHeartbeats 20000000
namespace Go.Via
variable[Mo]
open Go Go.RowKit
def bf.perm{B:Bs}{w:World}{L L':List aG}(hp:List.Perm L L')(h:bf B L w):bf B L' w:=by
 have key:L.Pairwise (fun bi bj=>(bi.own=true∨bj.own=true)->∀g,bi.base=some g->bj.base≠some g):=by
  rw[List.pairwise_iff_getElem];intro i j hi hj hij ho g hg hgj;rcases ho with ho|ho
  ·exact h.apart i j g _ _ (by omega) (List.getElem?_eq_getElem hi) (List.getElem?_eq_getElem hj) ho hg hgj
  ·exact h.apart j i g _ _ (by omega) (List.getElem?_eq_getElem hj) (List.getElem?_eq_getElem hi) ho hgj hg
 have key':=(hp.pairwise_iff (fun {x y} hxy ho g hy hx=>hxy ho.symm g hx hy)).1 key;rw[List.pairwise_iff_getElem] at key';refine⟨h.bel,fun k b hk=>?_,fun i j g bi bj hij hi hj ho hg hgj=>?_,h.grp.mem fun b hb=>hp.symm.subset hb⟩
 ·have hm:=hp.symm.subset (List.mem_of_getElem? hk);obtain⟨m,hm⟩:=List.mem_iff_getElem?.1 hm;exact h.blk m b hm
 ·obtain⟨hi1,rfl⟩:=List.getElem?_eq_some_iff.1 hi;obtain⟨hj1,rfl⟩:=List.getElem?_eq_some_iff.1 hj;rcases Nat.lt_or_gt_of_ne hij with c|c
  ·exact key' i j hi1 hj1 c (.inl ho) g hg hgj
  ·exact key' j i hj1 hi1 c (.inr ho) g hgj hg
def VA(s:St)(dst:Option Nat)(v:Value):(s.put dst v).L=s.L:=by cases dst<;>rfl
structure tZ(s s':St):Prop where
 nt:s.nt=s'.nt
 L:List.Perm s.L s'.L
 look:∀d,look s.t d=look s'.t d
def tZ.rel{s s':St}(h:tZ s s'){B:Bs}{w:World}{a:Act}(r:lh B s' a w):lh B s a w:=
 ⟨r.df,r.size.trans h.nt.symm,fun d v hd=>r.tmp d v (by rw[<-h.look d];exact hd),r.mem.perm h.L.symm⟩
def tZ.refl(s:St):tZ s s:=⟨rfl,List.Perm.refl _,fun _=>rfl⟩
theorem tZ.symm{s s':St}(h:tZ s s'):tZ s' s:=⟨h.nt.symm,h.L.symm,fun d=>(h.look d).symm⟩
def tZ.trans{s s' s'':St}(h:tZ s s')(k:tZ s' s''):tZ s s'':=⟨h.nt.trans k.nt,h.L.trans k.L,fun d=>(h.look d).trans (k.look d)⟩
theorem tZ.put{s s':St}(h:tZ s s')(dst:Option Nat)(sv:Value)(new:List aG):tZ (({s with L:=s.L++new}:St).put dst sv) (({s' with L:=s'.L++new}:St).put dst sv):=by
 cases dst with
 |none=>exact⟨h.nt,h.L.append_right _,h.look⟩
 |some d=>
  refine⟨h.nt,h.L.append_right _,fun k=>?_⟩
  by_cases e:d=k
  ·subst e;simp[St.put,fB]
  ·simp[St.put,dA e,h.look k]
def tZ.put0{s s':St}(h:tZ s s')(dst:Option Nat)(sv:Value):tZ (s.put dst sv) (s'.put dst sv):=by
 have:=h.put dst sv []
 simpa using this
theorem tZ.wanted{s s':St}(h:tZ s s')(ops:Array Oper)(o:Oper):ax ops o s.t=ax ops o s'.t:=by
 unfold ax
 split
 ·rfl
 ·split
  ·rw[h.look]
  ·rfl
def KCP(K:St->Prop):Prop:=∀s s',tZ s s'->K s->K s'
def KCP.kc{K:St->Prop}(h:KCP K):KC K:=fun s s' he=>h s s' ⟨he.nt,he.L▸List.Perm.refl _,he.look⟩
theorem Jp:∀{bl:List Nat} {L:List aG},FM bl=false->blank bl L=L
 |[],L,_=>rfl
 |k::bl,L,h=>by
  unfold FM at h;rw[List.any_cons,Bool.or_eq_false_iff] at h;unfold blank;rw[h.1];exact Jp (bl:=bl) h.2
theorem OV{bl:List Nat}{s:St}(h:FM bl=false):s.bk bl=s:=by show St.mk s.nt s.t (blank bl s.L)=s;rw[Jp h]
def iY.congrP{P:Program}{bl:List Nat}{ops:Array Oper}{o:Oper}{s s':St}{K:St->Prop}(hA:IC bl=true)(hS:FM bl=false)(hK:KCP K)(h:tZ s s')(hs:iY P bl ops o s K):iY P bl ops o s' K:=by
 obtain⟨h0,g,hg,hh⟩:=hs;refine⟨by rw[<-h.nt];exact h0,g,by rw[<-h.wanted];exact hg,?_⟩;rcases hh with⟨h1,h2⟩|⟨h1,⟨h2,sv,h3,h4⟩|⟨h2,X,res,new,h3,hF,h4⟩|⟨hm,hA',hm',X,nx,h3,h4⟩|⟨hm,hd,L',h3,h5,h4⟩|⟨hA',e,cs,h3,h4⟩|⟨hC,hbS,X,res,nL,h3,h5,h4⟩⟩
 ·exact .inl ⟨h1,hK _ _ (h.put0 _ _) h2⟩
 ·refine .inr ⟨h1,.inl ⟨h2,sv,⟨fun B a w hr=>?_,fun h5 h6=>by rw[<-GX h.look];exact h3.2 h5 h6⟩,hK _ _ (h.put0 _ _) h4⟩⟩
  have h3:=h3.1;rw[OV hS] at hr h3;exact h3 B a w (h.rel hr)
 ·obtain⟨hF1,hX⟩:=hF hA;refine .inr ⟨h1,.inr (.inl ⟨h2,X,res,new,fun B a w hr=>?_,fun hb=>⟨fun B a w hr=>hF1 B a w (h.rel hr),hX⟩,fun x=>hK _ _ (h.put _ _ _) (h4 x)⟩)⟩
  obtain⟨f,args,r1,r2⟩:=hF1 B a w (h.rel hr);refine⟨f,args,r1,r2.mono ?_⟩;rintro e w' ⟨x,rfl,hx,hown⟩;exact⟨x,rfl,hr.mem.joinF hx hown⟩
 ·exact .inr ⟨h1,.inr (.inr (.inl ⟨hm,hA',hm',X,nx,fun B a w hr=>h3 B a w (h.rel hr),h4⟩))⟩
 ·exact .inr ⟨h1,.inr (.inr (.inr (.inl ⟨hm,hd,L',fun B a w hr=>h3 B a w (h.rel hr),(fun hb=>by rw[hS] at hb;cases hb),hK {s with L:=L'} {s' with L:=L'} ⟨h.nt,List.Perm.refl _,h.look⟩ h4⟩)))⟩
 ·exact .inr ⟨h1,.inr (.inr (.inr (.inr (.inl ⟨hA',e,cs,by rw[<-Jf h.look];exact h3,fun g=>hK _ _ (h.put _ _ _) (h4 g)⟩))))⟩
 ·rw[hS] at hbS;cases hbS
def aW.kcP{P:Program}{bl:List Nat}{ops:Array Oper}{K:St->Prop}(hA:IC bl=true)(hS:FM bl=false)(hK:KCP K):∀l:List Oper,KCP (fun s=>aW P bl ops l s K)
 |[]=>hK
 |o::l=>fun _ _ h hs=>iY.congrP hA hS (aW.kcP hA hS hK l) h hs
theorem VB{o:Oper}(h:iU o=true∨isAl o=true):isSto o=false:=by
 unfold isSto
 split<;>first|rfl|(rename_i heq
                    rcases h with h|h
                    ·unfold iU at h;rw[heq] at h;cases h
                    ·unfold isAl at h;rw[heq] at h;cases h)
def iY.laterA{P:Program}{bl:List Nat}{ops:Array Oper}{p:Oper}{s:St}{K:St->Prop}{dst:Option Nat}{u:Value}{E:List aG}(hA:IC bl=true)(hS:FM bl=false)(hp:iU p=true∨isAl p=true)(hM:IE bl=false)
 (hd:∀d,dst=some d->d<s.nt)(hl:∀d,dst=some d->d∉p.looksAt ops)(hne:∀d,p.dst=some d->dst≠some d)
 (h:iY P bl ops p s (fun s1=>∀s2,tZ (({s1 with L:=s1.L++E}:St).put dst u) s2->K s2)):iY P bl ops p (({s with L:=s.L++E}:St).put dst u) K:=by
 have hns:∀cs b,p.op≠ .select cs b:=fun cs b e=>by
  rcases hp with hp|hp
  ·unfold iU at hp;rw[e] at hp;cases hp
  ·unfold isAl at hp;rw[e] at hp;cases hp
 have hn:(({s with L:=s.L++E}:St).put dst u).nt=s.nt:=by cases dst<;>rfl
 have hLL:(({s with L:=s.L++E}:St).put dst u).L=s.L++E:=by cases dst<;>rfl
 have comm:∀(x:Value) (new:List aG),tZ (({(({s with L:=s.L++new}:St).put p.dst x) with L:=(({s with L:=s.L++new}:St).put p.dst x).L++E}:St).put dst u)
  (({(({s with L:=s.L++E}:St).put dst u) with L:=(({s with L:=s.L++E}:St).put dst u).L++new}:St).put p.dst x):=by
  intro x new;have e1:(({s with L:=s.L++new}:St).put p.dst x).L=s.L++new:=by cases p.dst<;>rfl
  refine⟨?_,?_,?_⟩
  ·cases p.dst<;>cases dst<;>rfl
  ·have a1:=(VA ({(({s with L:=s.L++new}:St).put p.dst x) with L:=(({s with L:=s.L++new}:St).put p.dst x).L++E}:St) dst u).trans (congrArg (· ++E) (VA ({s with L:=s.L++new}:St) p.dst x))
   have a2:=(VA ({(({s with L:=s.L++E}:St).put dst u) with L:=(({s with L:=s.L++E}:St).put dst u).L++new}:St) p.dst x).trans (congrArg (· ++new) (VA ({s with L:=s.L++E}:St) dst u))
   have a3:List.Perm (s.L++new++E) (s.L++E++new):=by
    rw[List.append_assoc,List.append_assoc];exact List.Perm.append_left _ List.perm_append_comm
   exact(List.Perm.of_eq a1).trans (a3.trans (List.Perm.of_eq a2.symm))
  ·intro d;cases hp:p.dst with
   |none=>cases dst<;>simp[St.put]
   |some dp=>
    cases dst with
    |none=>simp[St.put]
    |some di=>
     have hne':di≠dp:=fun e=>hne dp hp (by rw[e])
     simp only[St.put]
     by_cases e1:di=d
     ·subst e1;rw[fB,dA (Ne.symm hne'),fB]
     ·rw[dA e1]
      by_cases e2:dp=d
      ·subst e2;rw[fB,fB]
      ·rw[dA e2,dA e2,dA e1]
 obtain⟨h0,g,hg,hh⟩:=h;refine⟨by rw[hn];exact h0,g,?_,?_⟩
 ·have:=rZ (ops:=ops) (o:=p) (s:={s with L:=s.L++E}) (dst:=dst) (v:=u) hl
  rw[this];exact hg
 have c0:∀(x:Value),(({s with L:=s.L++[]}:St).put p.dst x)=s.put p.dst x:=fun x=>by simp
 have c1:∀(x:Value),({(({s with L:=s.L++E}:St).put dst u) with L:=(({s with L:=s.L++E}:St).put dst u).L++[]}:St).put p.dst x=(({s with L:=s.L++E}:St).put dst u).put p.dst x:=fun x=>by simp
 have comm0:∀(x:Value),tZ (({s.put p.dst x with L:=(s.put p.dst x).L++E}:St).put dst u) ((({s with L:=s.L++E}:St).put dst u).put p.dst x):=fun x=>by
  have:=comm x [];rw[c0,c1] at this;exact this
 have back:∀(B:Bs) (a:Act) (w:World),lh B (({s with L:=s.L++E}:St).put dst u) a w->∃v,lh B s (a.put dst v) w∧execOp (a.put dst v).eval p=execOp a.eval p:=fun B a w hr=>by
  obtain⟨v,hv⟩:=lh.putBack (s:=s) (new:=E) hd hr;exact⟨v,hv,execOp_put p hns a dst v hl⟩
 rcases hh with⟨h1,h2⟩|⟨h1,⟨h2,sv,h3,h4⟩|⟨h2,X,res,new,h3,hF,h4⟩|⟨hm,hA',hm',X,nx,h3,h4⟩|⟨hm,hd',L',h3,h5,h4⟩|⟨hA',e,cs,h3,h4⟩|⟨hC,hbS,X,res,nL,h3,h5,h4⟩⟩
 ·exact .inl ⟨h1,h2 _ (comm0 _)⟩
 ·refine .inr ⟨h1,.inl ⟨h2,sv,⟨fun B a w hr=>?_,fun h5 h6=>by rw[Bf (s:={s with L:=s.L++E}) hl];exact h3.2 h5 h6⟩,h4 _ (comm0 _)⟩⟩
  have h3:=h3.1;rw[OV hS] at hr h3;obtain⟨v,hv,he⟩:=back B a w hr;have:=h3 B _ w hv
  rwa [he] at this
 ·obtain⟨hF1,hX⟩:=hF hA;have hFl:Ec P p (({s with L:=s.L++E}:St).put dst u) X res new:=fun B a w hr=>by
   obtain⟨v,hv,he⟩:=back B a w hr;have:=hF1 B _ w hv
   rwa [he] at this
  refine .inr ⟨h1,.inr (.inl ⟨h2,X,res,new,fun B a w hr=>?_,fun _=>⟨hFl,hX⟩,fun x=>h4 x _ (comm _ _)⟩)⟩
  obtain⟨f,args,r1,r2⟩:=hFl B a w hr;refine⟨f,args,r1,r2.mono ?_⟩;rintro e w' ⟨x,rfl,hx,hown⟩;exact⟨x,rfl,hr.mem.joinF hx hown⟩
 ·exfalso
  rcases hp with hp|hp
  ·rw[hM,show OH bl p=true by simp[OH,hp]] at hm;cases hm
  ·rw[hA,hp] at hA';cases hA'
 ·rw[VB hp] at hm;cases hm
 ·exact .inr ⟨h1,.inr (.inr (.inr (.inr (.inl ⟨hA',e,cs,by rw[Je (s:={s with L:=s.L++E}) hl];exact h3,fun g=>h4 g _ (comm _ _)⟩))))⟩
 ·rw[hS] at hbS;cases hbS
theorem iY.some{P:Program}{bl:List Nat}{ops:Array Oper}{p:Oper}{s:St}{K:St->Prop}(hS:FM bl=false)(hA:IC bl=true)(hp:iU p=true∨isAl p=true)(hM:IE bl=false)(h:iY P bl ops p s K):
 ∃x new,K (({s with L:=s.L++new}:St).put p.dst x):=by
 obtain⟨h0,g,hg,hh⟩:=h;rcases hh with⟨h1,h2⟩|⟨h1,⟨h2,sv,h3,h4⟩|⟨h2,X,res,new,h3,hF,h4⟩|⟨hm,hA',hm',X,nx,h3,h4⟩|⟨hm,hd',L',h3,h5,h4⟩|⟨hA',e,cs,h3,h4⟩|⟨hC,hbS,X,res,nL,h3,h5,h4⟩⟩
 ·exact⟨undef,[],by simpa using h2⟩
 ·exact⟨sv,[],by simpa using h4⟩
 ·obtain⟨_,⟨x⟩⟩:=hF hA;exact⟨_,_,h4 x⟩
 ·exfalso
  rcases hp with hp|hp
  ·rw[hM,show OH bl p=true by simp[OH,hp]] at hm;cases hm
  ·rw[hA,hp] at hA';cases hA'
 ·rw[VB hp] at hm;cases hm
 ·exact⟨_,_,h4 0⟩
 ·rw[hS] at hbS;cases hbS
def iY.form{P:Program}{bl:List Nat}{ops:Array Oper}{p:Oper}{s:St}{K:St->Prop}(hS:FM bl=false)(hA:IC bl=true)(hp:iU p=true∨isAl p=true)(hM:IE bl=false)(h:iY P bl ops p s K):
 iY P bl ops p s (fun s1=>K s1∧∃x new,s1=(({s with L:=s.L++new}:St).put p.dst x)):=by
 obtain⟨h0,g,hg,hh⟩:=h;refine⟨h0,g,hg,?_⟩;rcases hh with⟨h1,h2⟩|⟨h1,⟨h2,sv,h3,h4⟩|⟨h2,X,res,new,h3,hF,h4⟩|⟨hm,hA',hm',X,nx,h3,h4⟩|⟨hm,hd',L',h3,h5,h4⟩|⟨hA',e,cs,h3,h4⟩|⟨hC,hbS,X,res,nL,h3,h5,h4⟩⟩
 ·exact .inl ⟨h1,h2,undef,[],by simp⟩
 ·exact .inr ⟨h1,.inl ⟨h2,sv,h3,h4,sv,[],by simp⟩⟩
 ·exact .inr ⟨h1,.inr (.inl ⟨h2,X,res,new,h3,hF,fun x=>⟨h4 x,_,_,rfl⟩⟩)⟩
 ·exfalso
  rcases hp with hp|hp
  ·rw[hM,show OH bl p=true by simp[OH,hp]] at hm;cases hm
  ·rw[hA,hp] at hA';cases hA'
 ·rw[VB hp] at hm;cases hm
 ·exact .inr ⟨h1,.inr (.inr (.inr (.inr (.inl ⟨hA',e,cs,h3,fun g=>⟨h4 g,_,_,rfl⟩⟩))))⟩
 ·rw[hS] at hbS;cases hbS
def aW.swapA{P:Program}{bl:List Nat}{ops:Array Oper}{p i:Oper}{rest:List Oper}{s:St}{K:St->Prop}(hA:IC bl=true)(hS:FM bl=false)(hM:IE bl=false)(hK:KCP K)(hp:iU p=true∨isAl p=true)(hi:isAl i=true)
 (hap:p.apart ops i=true)(h:aW P bl ops (p::i::rest) s K):aW P bl ops (i::p::rest) s K:=by
 obtain⟨ap1,ap2,ap3⟩:=Oper.apart_spec hap;have h':iY P bl ops p s (fun s'=>iY P bl ops i s' (fun s2=>aW P bl ops rest s2 K)):=h;have hne:∀d,p.dst=some d->i.dst≠some d:=ap2;have hw:∀(x:Value) (new:List aG),ax ops i (({s with L:=s.L++new}:St).put p.dst x).t=ax ops i s.t:=fun x new=>rZ (s:={s with L:=s.L++new}) ap1
 have hci:jT i=false:=by
  unfold isAl at hi;unfold jT
  split at hi
  ·rename_i heq;rw[heq]
  ·rename_i heq;rw[heq]
  ·cases hi
 have what:∀{s1:St},iY P bl ops i s1 (fun s2=>aW P bl ops rest s2 K)->(∃x new,s1=(({s with L:=s.L++new}:St).put p.dst x))->
  (∀d,i.dst=some d->d<s.nt)∧((ax ops i s.t=some false∧aW P bl ops rest (s1.put i.dst undef) K)∨
 (ax ops i s.t=some true∧∃e cs,zC P s.t i=some (e,cs)∧∀g,aW P bl ops rest (({s1 with L:=s1.L++[alB g e cs]}:St).put i.dst (alV i g)) K)):=by
  rintro s1 ⟨k0,g,hk,hh⟩ ⟨x,new,rfl⟩;rw[hw] at hk;refine⟨fun d hd=>by have:=k0 d hd;rwa [show(({s with L:=s.L++new}:St).put p.dst x).nt=s.nt by cases p.dst<;>rfl] at this,?_⟩
  rcases hh with⟨rfl,h2⟩|⟨rfl,⟨h2,sv,h3,h4⟩|⟨h2,X,res,new,h3,hF,h4⟩|⟨hm,hA',hm',X,nx,h3,h4⟩|⟨hm,hd',L',h3,h5,h4⟩|⟨hA',e,cs,h3,h4⟩|⟨hC,hbS,X,res,nL,h3,h5,h4⟩⟩
  ·exact .inl ⟨hk,h2⟩
  ·rw[hA,hi] at h2;cases h2
  ·rw[hci] at h2;cases h2
  ·rw[hA,hi] at hA';cases hA'
  ·rw[VB (.inr hi)] at hm;cases hm
  ·exact .inr ⟨hk,e,cs,by rw[<-Je (s:={s with L:=s.L++new}) ap1];exact h3,h4⟩
  ·rw[hS] at hbS;cases hbS
 have hf:=h'.form hS hA hp hM;obtain⟨x0,new0,k0,kf⟩:=hf.some hS hA hp hM;obtain⟨hb,hcase⟩:=what k0 kf;rcases hcase with⟨hk,_⟩|⟨hk,e,cs,hal,_⟩
 ·refine⟨hb,false,hk,.inl ⟨rfl,?_⟩⟩;have e:s.put i.dst undef=({s with L:=s.L++[]}:St).put i.dst undef:=by simp
  rw[e];refine iY.laterA hA hS hp hM hb ap3 hne (hf.mono ?_);rintro s1 ⟨hs1,hform⟩ s2 he;rcases(what hs1 hform).2 with⟨_,h2⟩|⟨h2,_⟩
  ·refine aW.kcP hA hS hK rest _ _ he ?_;have e:s1.put i.dst undef=({s1 with L:=s1.L++[]}:St).put i.dst undef:=by simp
   rw[<-e];exact h2
  ·rw[hk] at h2;cases h2
 ·refine⟨hb,true,hk,.inr ⟨rfl,.inr (.inr (.inr (.inr (.inl ⟨hi,e,cs,hal,fun gg=>?_⟩))))⟩⟩;refine iY.laterA hA hS hp hM hb ap3 hne (hf.mono ?_);rintro s1 ⟨hs1,hform⟩ s2 he;rcases(what hs1 hform).2 with⟨h2,_⟩|⟨_,e',cs',hal',h2⟩
  ·rw[hk] at h2;cases h2
  ·rw[hal] at hal';cases hal';exact aW.kcP hA hS hK rest _ _ he (h2 gg)
def XD{o:Oper}(hi:zF o=true):iU o=true∧jT o=false∧isAl o=false∧isSto o=false:=by
 unfold zF at hi
 split at hi
 ·rename_i heq;exact⟨by unfold iU;rw[heq],by unfold jT;rw[heq],by unfold isAl;rw[heq],by unfold isSto;rw[heq]⟩
 ·rename_i heq;exact⟨by unfold iU;rw[heq],by unfold jT;rw[heq],by unfold isAl;rw[heq],by unfold isSto;rw[heq]⟩
 ·rename_i heq;exact⟨by unfold iU;rw[heq],by unfold jT;rw[heq],by unfold isAl;rw[heq],by unfold isSto;rw[heq]⟩
 ·cases hi
def aW.swapQ{P:Program}{bl:List Nat}{ops:Array Oper}{p i:Oper}{rest:List Oper}{s:St}{K:St->Prop}(hA:IC bl=true)(hS:FM bl=false)(hM:IE bl=false)(hK:KCP K)(hp:isSto p=true∨isAl p=true)(hpg:p.guard=none)(hi:zF i=true)
 (hap:p.apart ops i=true)(h:aW P bl ops (p::i::rest) s K):aW P bl ops (i::p::rest) s K:=by
 obtain⟨ap1,ap2,ap3⟩:=Oper.apart_spec hap;have h':iY P bl ops p s (fun s'=>iY P bl ops i s' (fun s2=>aW P bl ops rest s2 K)):=h;obtain⟨h0,g,hg,hh⟩:=h';have hg1:g=true:=by
  unfold ax at hg;rw[hpg] at hg;simpa using hg.symm
 subst hg1;have hnp:(IC bl&&(isAl p||isSto p))=false->False:=fun h1=>by rcases hp with hp|hp<;>rw[hA,hp] at h1<;>simp at h1
 have hcp:jT p=false:=by
  rcases hp with hp|hp
  ·unfold isSto at hp
   split at hp<;>first|(cases hp;done)|(rename_i heq;unfold jT;rw[heq])
  ·unfold isAl at hp
   split at hp
   ·rename_i heq;unfold jT;rw[heq]
   ·rename_i heq;unfold jT;rw[heq]
   ·cases hp
 obtain⟨m1,m2,m3,m4⟩:=XD hi;have hns:∀cs b,p.op≠ .select cs b:=fun cs b e=>by
  rcases hp with hp|hp
  ·unfold isSto at hp;rw[e] at hp;cases hp
  ·unfold isAl at hp;rw[e] at hp;cases hp
 have hwp:∀s':St,ax ops p s'.t=some true:=fun s'=>by unfold ax;rw[hpg]
 have what:∀{s1:St},iY P bl ops i s1 (fun s2=>aW P bl ops rest s2 K)->s1.nt=s.nt->(ax ops i s1.t=ax ops i s.t)->nX P s1.t i=nX P s.t i->
  (∀d,i.dst=some d->d<s.nt)∧((ax ops i s.t=some false∧aW P bl ops rest (s1.put i.dst undef) K)∨(ax ops i s.t=some true∧∃v,nX P s.t i=some v∧aW P bl ops rest (s1.put i.dst v) K)):=by
  rintro s1 ⟨k0,gi,hgi,kk⟩ e1 e2 e3;rw[e2] at hgi;refine⟨fun d hd=>by rw[<-e1];exact k0 d hd,?_⟩;rcases kk with⟨h1,h2⟩|⟨h1,⟨h2,sv,q3,q4⟩|⟨h2,X,res,new,q3,hF,q4⟩|⟨qm,hA',qm',X,nx,q3,q4⟩|⟨qm,qd,L'',q3,q5,q4⟩|⟨hA',e,cs,q3,q4⟩|⟨hC,hbS,X,res,nL,q3,q5,q4⟩⟩
  ·exact .inl ⟨by rw[hgi,h1],h2⟩
  ·exact .inr ⟨by rw[hgi,h1],sv,by rw[<-e3];exact q3.2 hA hi,q4⟩
  ·rw[m2] at h2;cases h2
  ·rw[hM,show OH bl i=true by simp[OH,m1]] at qm;cases qm
  ·rw[m4] at qm;cases qm
  ·rw[m3] at hA';cases hA'
  ·rw[hS] at hbS;cases hbS
 have ahead:∀(v:Value),(ax ops i s.t=some false∧v=undef∨ax ops i s.t=some true∧nX P s.t i=some v)->(∀d,i.dst=some d->d<s.nt)->aW P bl ops (p::rest) (s.put i.dst v) K->aW P bl ops (i::p::rest) s K:=by
  intro v hv hb hr;rcases hv with⟨h1,rfl⟩|⟨h1,h2⟩
  ·exact⟨hb,false,h1,.inl ⟨rfl,hr⟩⟩
  ·exact⟨hb,true,h1,.inr ⟨rfl,.inl ⟨by rw[m3,m4];simp,v,⟨by rw[OV hS];exact Qx h2,fun _ _=>h2⟩,hr⟩⟩⟩
 rcases hh with⟨h1,_⟩|⟨_,⟨h2,sv,h3,h4⟩|⟨h2,X,res,new,h3,hF,h4⟩|⟨hm,hA',hm',X,nx,h3,h4⟩|⟨hm,hd,L',h3,h5,h4⟩|⟨hA',e,cs,h3,h4⟩|⟨hC,hbS,X,res,nL,h3,h5,h4⟩⟩
 ·cases h1
 ·exact(hnp h2).elim
 ·rw[hcp] at h2;cases h2
 ·exact(hnp hA').elim
 ·
  obtain⟨hb,hc⟩:=what h4 rfl rfl rfl;have behind:∀(v:Value),aW P bl ops rest ((({s with L:=L'}:St)).put i.dst v) K->aW P bl ops (p::rest) (s.put i.dst v) K:=by
   intro v hr;refine⟨fun d hd'=>(by rw[hd] at hd';cases hd'),true,hwp _,.inr ⟨rfl,.inr (.inr (.inr (.inl ⟨hm,hd,L',fun B a w hrel=>?_,(fun hb=>by rw[hS] at hb;cases hb),?_⟩)))⟩⟩
   ·have hrel':lh B (({s with L:=s.L++[]}:St).put i.dst v) a w:=by simpa using hrel
    obtain⟨u,hu⟩:=lh.putBack (s:=s) (new:=[]) hb hrel';have:=h3 B _ w hu
    rwa [execOp_put p hns a i.dst u ap3] at this
   ·have e:({s.put i.dst v with L:=L'}:St)=(({s with L:=L'}:St)).put i.dst v:=by cases i.dst<;>rfl
    rw[e];exact hr
  rcases hc with⟨c1,c2⟩|⟨c1,v,c2,c3⟩
  ·exact ahead undef (.inl ⟨c1,rfl⟩) hb (behind _ c2)
  ·exact ahead v (.inr ⟨c1,c2⟩) hb (behind _ c3)
 ·
  have hs1:∀gg,(({s with L:=s.L++[alB gg e cs]}:St).put p.dst (alV p gg)).nt=s.nt:=fun gg=>by cases p.dst<;>rfl
  have hw1:∀gg,ax ops i (({s with L:=s.L++[alB gg e cs]}:St).put p.dst (alV p gg)).t=ax ops i s.t:=fun gg=>rZ (s:={s with L:=s.L++[alB gg e cs]}) ap1
  have hv1:∀gg,nX P (({s with L:=s.L++[alB gg e cs]}:St).put p.dst (alV p gg)).t i=nX P s.t i:=fun gg=>Bf (s:={s with L:=s.L++[alB gg e cs]}) ap1
  have hp2:iU p=true∨isAl p=true:= .inr hA';have hpi:∀d,p.dst=some d->i.dst≠some d:=ap2;have behind:∀(v:Value),(∀d,i.dst=some d->d<s.nt)->(∀gg,aW P bl ops rest ((({s with L:=s.L++[alB gg e cs]}:St).put p.dst (alV p gg)).put i.dst v) K)->aW P bl ops (p::rest) (s.put i.dst v) K:=by
   intro v hb hr;have e:s.put i.dst v=({s with L:=s.L++[]}:St).put i.dst v:=by simp
   rw[e];refine iY.laterA (K:=fun s2=>aW P bl ops rest s2 K) hA hS hp2 hM hb ap3 hpi ⟨h0,true,hg,.inr ⟨rfl,.inr (.inr (.inr (.inr (.inl ⟨hA',_,cs,h3,fun gg s2 he=>?_⟩))))⟩⟩;refine aW.kcP hA hS hK rest _ _ he ?_;have:=hr gg
   simpa using this
  obtain⟨hb,hc⟩:=what (h4 0) (hs1 0) (hw1 0) (hv1 0);rcases hc with⟨c1,_⟩|⟨c1,v,c2,_⟩
  ·refine ahead undef (.inl ⟨c1,rfl⟩) hb (behind _ hb fun gg=>?_);rcases(what (h4 gg) (hs1 gg) (hw1 gg) (hv1 gg)).2 with⟨_,d2⟩|⟨d1,_⟩
   ·exact d2
   ·rw[c1] at d1;cases d1
  ·refine ahead v (.inr ⟨c1,c2⟩) hb (behind _ hb fun gg=>?_);rcases(what (h4 gg) (hs1 gg) (hw1 gg) (hv1 gg)).2 with⟨d1,_⟩|⟨_,v',d2,d3⟩
   ·rw[c1] at d1;cases d1
   ·rw[c2] at d2;cases d2;exact d3
 ·rw[hS] at hbS;cases hbS
def Jq(bl:List Nat)(ops:Array Oper)(op oi:Oper):Bool:=
 op.apart ops oi&&(((iU op&&vU bl oi&& !jT op)||(isAl oi&&(iU op||isAl op)))||((isSto op||isAl op)&&zF oi&&op.guard.isNone))
def aW.frontA{P:Program}{bl:List Nat}{ops:Array Oper}{i:Oper}{post:List Oper}{K:St->Prop}(hA:IC bl=true)(hS:FM bl=false)(hM:IE bl=false)(hK:KCP K):∀{pre:List Oper} {s:St},
 (∀p∈pre,Jq bl ops p i=true)->aW P bl ops (pre++i::post) s K->aW P bl ops (i::(pre++post)) s K
 |[],s,_,h=>h
 |p::pre,s,hp,h=>by
  have h1:iY P bl ops p s (fun s'=>aW P bl ops (pre++i::post) s' K):=h;have h2:aW P bl ops (p::i::(pre++post)) s K:=by
   refine iY.mono ?_ h1;intro s' hr;exact aW.frontA hA hS hM hK (fun q hq=>hp q (by simp[hq])) hr
  have hpp:=hp p (by simp);simp only[Jq,Bool.and_eq_true,Bool.or_eq_true,Bool.not_eq_true'] at hpp;obtain⟨ha,(⟨⟨hm,hf⟩,hc⟩|⟨hi,hm⟩)|⟨⟨hs,hi⟩,hg⟩⟩:=hpp
  ·exact aW.swap (hK.kc) hm hf hc ha h2
  ·exact aW.swapA hA hS hM hK hm hi ha h2
  ·exact aW.swapQ hA hS hM hK hs (by simpa using hg) hi ha h2
def En(bl:List Nat)(ops:Array Oper)(p i:Nat):Bool:=
 waitsF ops ops.size i p||
 match ops[p]?,ops[i]? with
 |some op,some oi=>Jq bl ops op oi
 |_,_=>false
def zL(bl:List Nat)(ops:Array Oper)(perm:List Nat):Bool:=
 decide (perm.length=ops.size)&&perm.all (fun i=>decide (i<ops.size))&&(List.range ops.size).all (fun i=>perm.contains i)&&
 iZ (En bl ops) perm&&iZ (jF ops) perm&&perm.all (fun i=>jF ops i i)&&perm.all (fun i=>ry ops i)&&iZ (fun i j=>i !=j) perm&&IC bl&& !FM bl&& !IE bl
def LQ{P:Program}{bl:List Nat}{ops:Array Oper}{Q:Exit->Act->World->Prop}{K:St->Prop}{B:Bs}(hA:IC bl=true)(hS:FM bl=false)(hM:IE bl=false)(hK:KCP K)(hpost:∀s' a' w',K s'->lh B s' a' w'->Q .normal a' w'):
 ∀(n:Nat) (l:List Nat) (listed:Array Bool) (s:St) (a:Act) (w:World),l.length=n->TY ops l->l.Pairwise (fun p i=>En bl ops p i=true)->listed.size=ops.size->
  (∀j,j<ops.size->(listed.getD j true=false↔j∈l))->OI ops listed->aW P bl ops (l.map fun i=>ops.getD i default) s K->lh B s a w->
  wpAny P .any ops Q n listed a w:=by
 intro n
 induction n with
 |zero=>
  intro l listed s a w hn ho hok hsz hl hc hr h;have:l=[]:=List.eq_nil_of_length_eq_zero hn;subst this;refine⟨?_,hpost _ _ _ hr h⟩;rcases hh:Region.ready .any ops listed with _|⟨i,r⟩
  ·rfl
  ·exfalso
   obtain⟨h1,o,ho',_⟩:=mem_ready.1 (show i∈Region.ready .any ops listed by rw[hh];simp);have:=(hl i (Array.getElem?_eq_some_iff.1 ho').1).1 h1;simp at this
 |succ n ih=>
  intro l listed s a w hn ho hok hsz hl hc hr h;refine⟨fun h0=>?_,fun i hi=>?_⟩
  ·exfalso
   cases l with
   |nil=>simp at hn
   |cons i0 rest=>
    have hi0:=ho.lt i0 (by simp);have:i0∈Region.ready .any ops listed:=by
     refine mem_ready.2 ⟨(hl i0 hi0).2 (by simp),ops[i0],Array.getElem?_eq_getElem hi0,fun e he hb=>?_⟩
     rcases hx:listed.getD e.on false with _|_
     ·exfalso
      have hself:=ho.self i0 (by simp);have hnw:∀j,j∈rest->jF ops i0 j=true:=fun j hj=>(List.pairwise_cons.1 ho.nw).1 j hj
      have key:∀j,jF ops i0 j=true->e.on≠j:=fun j hj e'=>by
       unfold jF at hj;rw[Array.getElem?_eq_getElem hi0] at hj;have:=(Array.all_eq_true'.1 hj) e he;simp[hb,e'] at this
      rcases Nat.lt_or_ge e.on ops.size with hlt|hge
      ·have hun:listed.getD e.on true=false:=by
        have:e.on<listed.size:=(by rw[hsz];exact hlt);simp[this] at hx ⊢;exact hx
       have:=(hl e.on hlt).1 hun;rcases List.mem_cons.1 this with h1|h1
       ·exact key i0 hself h1
       ·exact key e.on (hnw _ h1) rfl
      ·have hj:=ho.ed i0 (by simp);unfold ry at hj;rw[Array.getElem?_eq_getElem hi0] at hj;have:=(Array.all_eq_true'.1 hj) e he;simp[hb] at this;omega
     ·rfl
    rw[h0] at this;cases this
  ·obtain⟨hun,oi,hoi,hall⟩:=mem_ready.1 hi;have hilt:=(Array.getElem?_eq_some_iff.1 hoi).1;have hil:i∈l:=(hl i hilt).1 hun;obtain⟨pre,post,rfl⟩:=List.append_of_mem hil;have hoid:ops.getD i default=oi:=by simp[hoi]
   have hpre:∀p∈pre,∃op,ops[p]? =some op∧Jq bl ops op oi=true:=by
    intro p hp;have hpo:En bl ops p i=true:=(List.pairwise_append.1 hok).2.2 p hp i (by simp);unfold En at hpo;rw[Bool.or_eq_true] at hpo;rcases hpo with hpo|hpo
    ·exfalso
     have h1:=ru hc hpo (fun o ho' e he hb=>by rw[hoi] at ho';cases ho';exact hall e he hb);have hplt:=ho.lt p (by simp[hp]);have h2:=(hl p hplt).2 (by simp[hp]);rw[OJ h2] at h1;cases h1
    ·rw[hoi] at hpo;cases hop:ops[p]? with
     |none=>rw[hop] at hpo;cases hpo
     |some op=>rw[hop] at hpo;exact⟨op,rfl,hpo⟩
   have hrun:aW P bl ops (oi::((pre++post).map fun i=>ops.getD i default)) s K:=by
    rw[List.map_append] at hr ⊢;rw[List.map_cons,hoid] at hr;refine aW.frontA hA hS hM hK ?_ hr;intro q hq;obtain⟨p,hp,rfl⟩:=List.mem_map.1 hq;obtain⟨op,hop,h1⟩:=hpre p hp;have:ops.getD p default=op:=by simp[hop]
    rw[this];exact h1
   have hsub:(pre++post).Sublist (pre++i::post):=List.Sublist.append (List.Sublist.refl _) (List.sublist_cons_self _ _);have hnd:=ho.nodup;have hinot:i∉pre++post:=by
    intro hm;have:=List.nodup_append.1 hnd;rcases List.mem_append.1 hm with h1|h1
    ·exact this.2.2 i h1 i (by simp) rfl
    ·exact(List.nodup_cons.1 this.2.1).1 h1
   unfold wpOp;rw[hoi];dsimp only;have hS':=iY.sound (K':=wpAny P .any ops Q n (listed.setIfInBounds i true)) (Q:=Q) hrun h (fun s' a' w' hk hrel=>by
 refine ih (pre++post) (listed.setIfInBounds i true) s' a' w' ?_ (ho.sub hsub) (hok.sublist hsub) (by simpa using hsz) ?_ ?_ hk hrel
 ·simp at hn ⊢;omega
 ·intro j hj
  by_cases hij:i=j
  ·subst hij;have:i<listed.size:=by rw[hsz];exact hilt
   simp[this]
   simpa using hinot
  ·rw[getD_set_ne true hij,hl j hj];simp[Ne.symm hij]
 ·intro j hj o hoj e he hb
  by_cases hij:i=j
  ·subst hij;rw[hoi] at hoj;cases hoj;exact getD_set_true (hall e he hb)
  ·rw[getD_set_ne false hij] at hj;exact getD_set_true (hc j hj o hoj e he hb))
   split
   ·rename_i hw;rw[if_pos hw] at hS';exact .inl hS'
   ·rename_i hw;rw[if_neg hw] at hS';exact hS'
def At.kcp{B:Bs}{X:Act->World->Prop}:KCP (fun s=>At B s X):=fun s s' he h a w hr=>h a w (he.rel hr)
def FV{P:Program}{B:Bs}{Q:Exit->Act->World->Prop}{s:St}{id:Nat}{l l':List Oper}(bl perm:List Nat)(hm:P.follows .mixedOrders=true)(hc:zL bl l.toArray perm=true)(hl:perm.map (fun i=>l.toArray.getD i default)=l')
 (h:aW P bl l.toArray l' s (fun s'=>At B s' (Q .normal))):At B s ((Code.region id l.toArray true).wp P Q):=fun a w hr=>by
 simp only[zL,Bool.and_eq_true,decide_eq_true_eq,Bool.not_eq_true'] at hc;obtain⟨⟨⟨⟨⟨⟨⟨⟨⟨⟨hlen,hlt⟩,hall⟩,hpo⟩,hnw⟩,hself⟩,hed⟩,hnd⟩,hA⟩,hS⟩,hM⟩:=hc;have hOrd:TY l.toArray perm:=⟨fun i hi=>of_decide_eq_true (List.all_eq_true.1 hlt i hi),iE hnw,fun i hi=>List.all_eq_true.1 hself i hi,fun i hi=>List.all_eq_true.1 hed i hi,(iE hnd).imp (fun h=>by simpa using h)⟩
 subst hl;refine wp_region_any hm ?_;refine LQ hA hS hM At.kcp (B:=B) (fun s' a' w' h1 h2=>h1 a' w' h2) l.toArray.size perm _ s a _ hlen hOrd (iE hpo) (by simp) ?_ ?_ h hr.drew
 ·intro j hj;have:j∈perm:=by
   have:=List.all_eq_true.1 hall j (List.mem_range.2 hj)
   simpa using this
  have hj':j<l.length:=(by simpa using hj);simp[hj',this]
 ·intro j hj
  exfalso
  rcases Nat.lt_or_ge j l.length with h1|h1
  ·simp[h1] at hj
  ·simp[h1] at hj
end Go.Via
namespace Go.Via
variable[Mo]
open Go Go.RowKit
def Jr{P:Program}{B:Bs}{fn:Func}{R:Ending->World->Prop}{s:St}(hfn:fn.results= #[])(hR:∀w,bf B s.L w->R (.returned (.tuple #[])) w)(hD:B.D=[]:=by first|rfl|assumption):At B s (bodyPost P fn R .normal):=fun a w hr=>
 ⟨hr.df.trans hD,.tuple #[],by simp[results,hfn],hR w hr.mem⟩
def Cm(P:Program)(f:Nat)(L0:List aG)(args:List Value)(X:Type)(res:X->Value)(L1:X->List aG):Prop:=
 ja P f=true∧∀(B:Bs) (w:World),B.D=[]->bf B L0 w->Calls P f args.toArray w fun e w'=>∃x,e= .returned (res x)∧bf B (L1 x) w'
section
variable{P:Program}{bl:List Nat}{ops:Array Oper}{K:St->Prop}{rest:List Oper}{nt:Nat}{t:List (Nat×Value)}{L:List aG}{d:Nat}{ty:TypeId}{pos:String}{af:Array Edge}{g:Option (Nat×Bool)}{x y:Operand}
def Ua{f:Nat}{v:Value}(hd:Nat.blt d nt=true)(hg:ax ops ⟨some d,.makeFunc (.func f) #[] #[x],ty,pos,af,g⟩ t=some true)(hx:ev t x=some v)(h:aW P bl ops rest ⟨nt,(d,.func (.func f) #[] #[v])::t,L⟩ K):
 aW P bl ops (⟨some d,.makeFunc (.func f) #[] #[x],ty,pos,af,g⟩::rest) ⟨nt,t,L⟩ K:=
 gq hd hg rfl (fun B a w hr=>by simp[execOp,Instr.makeFunc,hr.ev hx]) h
end
end Go.Via
namespace Go.Via
variable[Mo]
open Go Go.RowKit
def qgt(ms:List Nat)(l:List Edge):Nat:=l.foldl (fun m e=>if Region.binds .any e then m|||((1<<<e.on)|||ms.getD e.on 0) else m) 0
def Ub(ops:Array Oper)(ms:List Nat):Bool:=(List.range ops.size).all fun i=>match ops[i]? with
 |some o=>(o.after.toList.all fun e=> !Region.binds .any e||decide (e.on<i))&&ms.getD i 0==qgt ms o.after.toList
 |none=>true
def MP{ms:List Nat}{j:Nat}:∀{l:List Edge} {m:Nat},Nat.testBit (l.foldl (fun m e=>if Region.binds .any e then m|||((1<<<e.on)|||ms.getD e.on 0) else m) m) j=true->
 Nat.testBit m j=true∨∃e∈l,Region.binds .any e=true∧(e.on=j∨Nat.testBit (ms.getD e.on 0) j=true)
 |[],m,h=> .inl h
 |e::l,m,h=>by
  rw[List.foldl_cons] at h;rcases MP h with h|⟨e',h1,h2⟩
  ·split at h
   ·rename_i hb
    rw[Nat.testBit_or,Nat.testBit_or,Bool.or_eq_true,Bool.or_eq_true] at h;rcases h with h|h|h
    ·exact .inl h
    ·refine .inr ⟨e,by simp,hb,.inl ?_⟩;rw[Nat.testBit_shiftLeft] at h;simp only[Bool.and_eq_true,decide_eq_true_eq] at h;have h3:=h.2
     by_cases c:j-e.on=0
     ·omega
     ·exfalso
      obtain⟨k,hk⟩:∃k,j-e.on=k+1:=⟨j-e.on-1,by omega⟩;rw[hk,Nat.testBit_succ] at h3;simp at h3
    ·exact .inr ⟨e,by simp,hb,.inr h⟩
   ·exact .inl h
  ·exact .inr ⟨e',by simp[h1],h2⟩
def Dk{ops:Array Oper}{ms:List Nat}(hm:Ub ops ms=true):∀(f i j:Nat),i<f->i<ops.size->Nat.testBit (ms.getD i 0) j=true->waitsF ops f i j=true
 |0,i,j,h,_,_=>by omega
 |f+1,i,j,h,hi,hb=>by
  have h1:=List.all_eq_true.1 hm i (List.mem_range.2 hi);rw[Array.getElem?_eq_getElem hi] at h1;simp only[Bool.and_eq_true,beq_iff_eq] at h1;obtain⟨h2,h3⟩:=h1;rw[h3] at hb;unfold waitsF;rw[Array.getElem?_eq_getElem hi];rcases MP hb with hb|⟨e,he,hbe,hj⟩
  ·simp at hb
  ·have hlt:e.on<i:=by
    have:=List.all_eq_true.1 h2 e he;rw[hbe] at this
    simpa using this
   refine Array.any_eq_true'.2 ⟨e,by simpa using he,?_⟩;rw[hbe,Bool.true_and,Bool.or_eq_true];rcases hj with hj|hj
   ·exact .inl (by simpa using hj)
   ·exact .inr (Dk hm f e.on j (by omega) (by omega) hj)
def qfC(bl:List Nat)(ops:Array Oper)(ms:List Nat)(p i:Nat):Bool:=
 Nat.testBit (ms.getD i 0) p||
 match ops[p]?,ops[i]? with
 |some op,some oi=>iU op&&vU bl oi&& !jT op&&op.apart ops oi
 |_,_=>false
def ZE(bl:List Nat)(ops:Array Oper)(ms:List Nat)(p i:Nat):Bool:=
 Nat.testBit (ms.getD i 0) p||
 match ops[p]?,ops[i]? with
 |some op,some oi=>Jq bl ops op oi
 |_,_=>false
def zM{f g:Nat->Nat->Bool}:∀{l:List Nat},(∀p∈l,∀i∈l,f p i=true->g p i=true)->iZ f l=true->iZ g l=true
 |[],_,_=>rfl
 |p::l,h,hf=>by
  simp only[iZ,Bool.and_eq_true] at hf ⊢;exact⟨List.all_eq_true.2 fun i hi=>h p (by simp) i (by simp[hi]) (List.all_eq_true.1 hf.1 i hi),zM (fun p hp i hi=>h p (by simp[hp]) i (by simp[hi])) hf.2⟩
def QH(bl:List Nat)(ops:Array Oper)(perm:List Nat)(ms:List Nat):Bool:=
 Ub ops ms&&(decide (perm.length=ops.size)&&perm.all (fun i=>decide (i<ops.size))&&(List.range ops.size).all (fun i=>perm.contains i)&&
 iZ (qfC bl ops ms) perm&&iZ (jF ops) perm&&perm.all (fun i=>jF ops i i)&&perm.all (fun i=>ry ops i)&&iZ (Jg bl ops) perm&&iZ (Jh bl ops) perm&&iZ (fun i j=>i !=j) perm)
def oz{bl:List Nat}{ops:Array Oper}{perm:List Nat}(ms:List Nat)(h:QH bl ops perm ms=true):vX bl ops perm=true:=by
 unfold QH at h;rw[Bool.and_eq_true] at h;obtain⟨hm,h⟩:=h;unfold vX;simp only[Bool.and_eq_true] at h ⊢;obtain⟨⟨⟨⟨⟨⟨⟨⟨⟨h1,h2⟩,h3⟩,h4⟩,h5⟩,h6⟩,h7⟩,h8⟩,h9⟩,h10⟩:=h;refine⟨⟨⟨⟨⟨⟨⟨⟨⟨h1,h2⟩,h3⟩,zM (fun p hp i hi hpi=>?_) h4⟩,h5⟩,h6⟩,h7⟩,h8⟩,h9⟩,h10⟩;have hil:i<ops.size:=of_decide_eq_true (List.all_eq_true.1 h2 i hi);unfold qfC at hpi;unfold sW;rw[Bool.or_eq_true] at hpi ⊢;exact hpi.imp (Dk hm _ i p hil hil) id
def MQ(bl:List Nat)(ops:Array Oper)(perm:List Nat)(ms:List Nat):Bool:=
 Ub ops ms&&(decide (perm.length=ops.size)&&perm.all (fun i=>decide (i<ops.size))&&(List.range ops.size).all (fun i=>perm.contains i)&&
 iZ (ZE bl ops ms) perm&&iZ (jF ops) perm&&perm.all (fun i=>jF ops i i)&&perm.all (fun i=>ry ops i)&&iZ (fun i j=>i !=j) perm&&IC bl&& !FM bl&& !IE bl)
def VC{bl:List Nat}{ops:Array Oper}{perm:List Nat}(ms:List Nat)(h:MQ bl ops perm ms=true):zL bl ops perm=true:=by
 unfold MQ at h;rw[Bool.and_eq_true] at h;obtain⟨hm,h⟩:=h;unfold zL;simp only[Bool.and_eq_true] at h ⊢;obtain⟨⟨⟨⟨⟨⟨⟨⟨⟨⟨h1,h2⟩,h3⟩,h4⟩,h5⟩,h6⟩,h7⟩,h8⟩,h9⟩,h10⟩,h11⟩:=h;refine⟨⟨⟨⟨⟨⟨⟨⟨⟨⟨h1,h2⟩,h3⟩,zM (fun p hp i hi hpi=>?_) h4⟩,h5⟩,h6⟩,h7⟩,h8⟩,h9⟩,h10⟩,h11⟩;have hil:i<ops.size:=of_decide_eq_true (List.all_eq_true.1 h2 i hi);unfold ZE at hpi;unfold En;rw[Bool.or_eq_true] at hpi ⊢;exact hpi.imp (Dk hm _ i p hil hil) id
end Go.Via
namespace Go.Via
variable[Mo]
open Go Go.RowKit
section
variable{P:Program}{bl:List Nat}{ops:Array Oper}{K:St->Prop}{rest:List Oper}{nt:Nat}{t:List (Nat×Value)}{L:List aG}{d:Nat}{ty:TypeId}{pos:String}{af:Array Edge}{g:Option (Nat×Bool)}{x y:Operand}
def qcX{T i:Nat}{v u:Value}(hd:Nat.blt d nt=true)(hg:ax ops ⟨some d,.field T x i,ty,pos,af,g⟩ t=some true)(hx:ev t x=some v)(hf:∀w,(Instr.field T v i).run P w= .ok u w)
 (h:aW P bl ops rest ⟨nt,(d,u)::t,L⟩ K):aW P bl ops (⟨some d,.field T x i,ty,pos,af,g⟩::rest) ⟨nt,t,L⟩ K:=
 gq hd hg rfl (fun B a w hrel=>by simp[execOp,hrel.ev hx,hf w]) h
end
end Go.Via
namespace Go.Via
variable[Mo]
open Go Go.RowKit
section
variable{P:Program}{bl:List Nat}{ops:Array Oper}{K:St->Prop}{rest:List Oper}{nt:Nat}{t:List (Nat×Value)}{L:List aG}{d:Nat}{ty:TypeId}{pos:String}{af:Array Edge}{g:Option (Nat×Bool)}{x y z:Operand}
def ZF{T e:Nat}{b:Option Nat}{len cap:Nat}{ki:IntKind}{inf:TI}(l:Nat)(hT:P.underlying T=some (.slice e))(hinf:eP P e inf=true)(hd:Nat.blt d nt=true)(hg:ax ops ⟨some d,.slice T x (some y) none none,ty,pos,af,g⟩ t=some true)(hx:ev t x=some (az b 0 len cap))(hy:ev t y=some (.int ki (l:Nat)))(h1:l<=len)
 (h:aW P bl ops rest ⟨nt,(d,az b (if cap=l then 0 else l*inf.size) (len-l) (cap-l))::t,L⟩ K):aW P bl ops (⟨some d,.slice T x (some y) none none,ty,pos,af,g⟩::rest) ⟨nt,t,L⟩ K:=
 gq hd hg rfl (fun B a w hrel=>by
 have he:P.elem T=e:=(by simp[Program.elem,hT]);have hT':P.underlying T=some (.slice (P.elem T)):=(by rw[he];exact hT);have h2:=hrel.ev hx;have h3:=hrel.ev hy;unfold az at h2;have r1:=run_sliceAt_slice (P:=P) w T (.slice (b.map fun g=>⟨g,0,none⟩) len cap) (some (.int ki (l:Nat))) none none hT';rw[run_slice_l (P:=P) w T (b.map fun g=>⟨g,0,none⟩) len cap hT' ki (l:Nat) (by omega) (by omega),he,pg hinf w] at r1;simp only[Result.andThen_ok] at r1;have e1:sliced (b.map fun g=>(⟨g,0,none⟩:Addr)) ((l:Nat):Int).toNat len cap inf.size=az b (if cap=l then 0 else l*inf.size) (len-l) (cap-l):=by
  unfold sliced az;rw[Int.toNat_natCast]
  by_cases hc:cap=l
  ·rw[if_pos hc,if_pos hc]
  ·rw[if_neg hc,if_neg hc];cases b<;>simp[jW]
 rw[e1] at r1;simp[execOp,h2,h3,r1]) h
def iJ{T e:Nat}{b:Option Nat}{len cap off' n' c':Nat}{ki:IntKind}{inf:TI}(l:Nat)(hT:P.underlying T=some (.slice e))(hinf:eP P e inf=true)(hd:Nat.blt d nt=true)(hg:ax ops ⟨some d,.slice T x (some y) none none,ty,pos,af,g⟩ t=some true)(hx:ev t x=some (az b 0 len cap))(hy:ev t y=some (.int ki (l:Nat)))(h1:l<=len)(e1:(if cap=l then 0 else l*inf.size)=off')(e2:len-l=n')(e3:cap-l=c')
 (h:aW P bl ops rest ⟨nt,(d,az b off' n' c')::t,L⟩ K):aW P bl ops (⟨some d,.slice T x (some y) none none,ty,pos,af,g⟩::rest) ⟨nt,t,L⟩ K:=by
 subst e1;subst e2;subst e3;exact ZF l hT hinf hd hg hx hy h1 h
def Uc{T e off2:Nat}{inf:TypeInfo}{bb:Option Nat}{len cap c2:Nat}{b2:Option Nat}(hT:P.underlying T=some (.slice e))(hi:P.info? e=some inf)(hd:Nat.blt d nt=true)
 (hg:ax ops ⟨some d,.call {callee:= .builtin .append,args:= #[x,y],argTypes:= #[T,T]},ty,pos,af,g⟩ t=some true)
 (hx:ev t x=some (az bb 0 len cap))(hcap:len<=cap)(hy:ev t y=some (az b2 off2 0 c2))(h:aW P bl ops rest ⟨nt,(d,az bb 0 len cap)::t,L⟩ K):
 aW P bl ops (⟨some d,.call {callee:= .builtin .append,args:= #[x,y],argTypes:= #[T,T]},ty,pos,af,g⟩::rest) ⟨nt,t,L⟩ K:=
 gq hd hg rfl (fun B a w hr=>by
 have hx':=hr.ev hx;have hy':=hr.ev hy;have hs:Src P inf.size T (az b2 off2 0 c2) 0 [] w:=by
  cases b2 with
  |none=>exact Src.ofNil (P:=P) w hT c2
  |some g2=>exact Src.ofSlice (P:=P) w hT ⟨g2,off2,none⟩ 0 c2 [] (by simp) (fun j u hj=>by simp at hj) (fun u hu=>by cases hu)
 have r1:=run_append_nothing (P:=P) w T T ty e inf hT hi (bb.map fun g=>⟨g,0,none⟩) len cap hcap (az b2 off2 0 c2) hs;have r2:(execOp a.eval ⟨some d,.call {callee:= .builtin .append,args:= #[x,y],argTypes:= #[T,T]},ty,pos,af,g⟩).run P w=((Builtin.append_ #[T,T] ty #[az bb 0 len cap,az b2 off2 0 c2]).run P w).andThen fun v w=> .ok (.value v) w:=by
  simp[execOp,resolve,invoke,builtin,hx',hy']
 rw[r2];unfold az at r1 ⊢;rw[r1];rfl) h
end
end Go.Via
namespace Go.Via
variable[Mo]
open Go Go.RowKit
def Oper.wp_monoQ{P:Program}{o:Oper}{a:Act}{w:World}{K K':Act->World->Prop}{Q Q':Exit->Act->World->Prop}(h:∀a w,K a w->K' a w)
 (hp:∀c a w,Q (.panic c) a w->Q' (.panic c) a w)(hl:LetsOut Q->LetsOut Q')(hh:o.wp P a w K Q):o.wp P a w K' Q':=by
 unfold Oper.wp at*
 generalize(execOp a.eval o).run P w=r at*
 cases r with
 |ok n w'=>
  cases n<;>simp only[Oper.upon] at hh ⊢ <;>
   first
    |exact h _ _ hh
    |exact Calls.mono hh (fun e w'' he=>by cases e<;>first|exact h _ _ he|exact hp _ _ _ he|exact hl he)
    |exact Rows.mono hh (fun _ _ he=>h _ _ he)
 |halt x w'=>cases x<;>simp only[Oper.upon] at hh ⊢ <;>first|exact hp _ _ _ hh|exact hh
def su{P:Program}{md:Region.Mode}{ops:Array Oper}{Q Q':Exit->Act->World->Prop}(hn:∀a w,Q .normal a w->Q' .normal a w)
 (hp:∀c a w,Q (.panic c) a w->Q' (.panic c) a w)(hl:LetsOut Q->LetsOut Q'):∀(n:Nat) (listed:Array Bool) (a:Act) (w:World),wpAny P md ops Q n listed a w->wpAny P md ops Q' n listed a w
 |0,_,_,_,h=>⟨h.1,hn _ _ h.2⟩
 |n+1,listed,a,w,h=>⟨fun h0=>hn _ _ (h.1 h0),fun i hi=>by
 have h1:=h.2 i hi;unfold wpOp at h1 ⊢
 split
 ·rename_i ho;rw[ho] at h1;exact su hn hp hl n _ _ _ h1
 ·rename_i o ho
  rw[ho] at h1;dsimp only at h1
  split
  ·rename_i hw
   rw[if_pos hw] at h1;exact h1.imp (Oper.wp_monoQ (su hn hp hl n _) hp hl) (fun h2=>⟨h2.1,hl h2.2⟩)
  ·rename_i hw
   rw[if_neg hw] at h1;exact su hn hp hl n _ _ _ h1⟩
def Bg(ops:Array Oper):Array Bool->List Nat->Bool
 |_,[]=>true
 |listed,i::E=>(match ops[i]? with
 |some o=>iU o&& !jT o
 |none=>false)&&Region.free .any ops listed i&&(Region.ready .any ops listed).contains i&&Bg ops (listed.setIfInBounds i true) E
def vZ(X:Act->World->Prop):Exit->Act->World->Prop
 | .normal,a,w=>X a w
 |_,_,_=>False
def zN{P:Program}{ops:Array Oper}{X:Act->World->Prop}{B:Bs}{w:World}{nt:Nat}{L:List aG}{n:Nat}(hsel:Region.noSelect ops=true){G:List (Nat×Value)->Array Bool->Prop}
 (hG:∀(t:List (Nat×Value)) (listed:Array Bool) (a:Act),G t listed->lh B ⟨nt,t,L⟩ a w->wpAny P .any ops (vZ X) n listed a w):
 ∀(E:List Nat) (listed:Array Bool) (t:List (Nat×Value)) (a:Act),Bg ops listed E=true->
  aW P [] ops (E.map fun i=>ops.getD i default) ⟨nt,t,[]⟩ (fun s'=>G s'.t (E.foldl (fun(x:Array Bool) i=>x.setIfInBounds i true) listed))->lh B ⟨nt,t,L⟩ a w->wpAny P .any ops (vZ X) (E.length+n) listed a w
 |[],listed,t,a,_,hr,h=>by rw[show([]:List Nat).length+n=n by simp];exact hG t listed a hr h
 |i::E,listed,t,a,hc,hr,h=>by
  simp only[Bg,Bool.and_eq_true,Bool.not_eq_true'] at hc;obtain⟨⟨⟨hk,hf⟩,hrd⟩,hE⟩:=hc;cases ho:ops[i]? with
  |none=>rw[ho] at hk;cases hk
  |some o=>
   rw[ho] at hk;simp only[Bool.and_eq_true,Bool.not_eq_true'] at hk;obtain⟨hmv,hcl⟩:=hk;have hoid:ops.getD i default=o:=by simp[ho]
   have hr1:iY P [] ops (ops.getD i default) ⟨nt,t,[]⟩ (fun s'=>aW P [] ops (E.map fun i=>ops.getD i default) s' (fun s'=>G s'.t (E.foldl (fun(x:Array Bool) i=>x.setIfInBounds i true) (listed.setIfInBounds i true)))):=hr;rw[hoid] at hr1;obtain⟨h0,g,hg,hh⟩:=hr1;have hw:=Eb h hg;have hrel0:∀w':World,lh ⟨w',fun _=>False,B.D⟩ ⟨nt,t,[]⟩ a w':=fun w'=>⟨h.df,h.size,h.tmp,⟨⟨rfl,rfl,rfl,Nat.le_refl _,fun _ _ _=>rfl,fun _=>Nat.le_refl _⟩,fun k b hk=>by simp at hk,(fun i j g bi bj hij hi=>by simp at hi),mP.nil _ _⟩⟩
   have hnsto:isSto o=false:=by
    unfold isSto;unfold iU at hmv
    split<;>first|rfl|(rename_i heq;rw[heq] at hmv;cases hmv)
   have hnal:isAl o=false:=by
    unfold isAl;unfold iU at hmv
    split
    ·rename_i heq;rw[heq] at hmv;cases hmv
    ·rename_i heq;rw[heq] at hmv;cases hmv
    ·rfl
   obtain⟨v,hy,hk⟩:∃v,Go.Yields P ops o v a∧aW P [] ops (E.map fun i=>ops.getD i default) ((⟨nt,t,[]⟩:St).put o.dst v) (fun s'=>G s'.t (E.foldl (fun(x:Array Bool) i=>x.setIfInBounds i true) (listed.setIfInBounds i true))):=by
    rcases hh with⟨h1,h2⟩|⟨h1,⟨h2,v,h3,h4⟩|⟨h2,_⟩|⟨hm,_⟩|⟨hm,_⟩|⟨hm,_⟩|⟨_,hm,_⟩⟩
    ·exact⟨undef,.inr ⟨by rw[hw,h1],rfl⟩,h2⟩
    ·exact⟨v,.inl ⟨by rw[hw,h1],fun w'=>h3.1 _ a w' (hrel0 w')⟩,h4⟩
    ·rw[hcl] at h2;cases h2
    ·simp[IE,OH,hmv] at hm
    ·rw[hnsto] at hm;cases hm
    ·rw[hnal] at hm;cases hm
    ·cases hm
   rw[show(i::E).length+n=(E.length+n)+1 by simp;omega];refine wpAny_take ho hsel hf hrd (fun c a w hq=>hq.elim) hy ?_;have hput:(⟨nt,t,[]⟩:St).put o.dst v=⟨nt,((⟨nt,t,[]⟩:St).put o.dst v).t,[]⟩:=by cases o.dst<;>rfl
   rw[hput] at hk;refine zN hsel hG E _ _ _ hE hk ?_;have h5:=h.put0 (dst:=o.dst) (v:=v) h0;have h6:(⟨nt,t,L⟩:St).put o.dst v=⟨nt,((⟨nt,t,[]⟩:St).put o.dst v).t,L⟩:=by cases o.dst<;>rfl
   rw[<-h6];exact h5
def Ud{P:Program}{ops:Array Oper}{K:St->Prop}{listed:Array Bool}{s:St}(h:Region.ready .any ops listed=[])(hk:K s):zK P ops K 0 listed s:=⟨h,hk⟩
end Go.Via
namespace Go.Via
variable[Mo]
open Go Go.RowKit
section
variable{P:Program}{bl:List Nat}{ops:Array Oper}{K:St->Prop}{rest:List Oper}{nt:Nat}{t:List (Nat×Value)}{L:List aG}{d:Nat}{ty:TypeId}{pos:String}{af:Array Edge}{g:Option (Nat×Bool)}{x y:Operand}
def qgu{T e:Nat}{b:Option Addr}{len cap:Nat}(hT:P.underlying T=some (.slice e))(hd:Nat.blt d nt=true)(hg:ax ops ⟨some d,.call {callee:= .builtin .len,args:= #[x],argTypes:= #[T]},ty,pos,af,g⟩ t=some true)(hx:ev t x=some (.slice b len cap))(h:aW P bl ops rest ⟨nt,(d,.int .i64 len)::t,L⟩ K):
 aW P bl ops (⟨some d,.call {callee:= .builtin .len,args:= #[x],argTypes:= #[T]},ty,pos,af,g⟩::rest) ⟨nt,t,L⟩ K:=
 gq hd hg rfl (fun B a w hrel=>by
 have he:P.elem T=e:=(by simp[Program.elem,hT]);have:=run_len_slice (P:=P) w T ty b len cap (by rw[he];exact hT);have h2:=hrel.ev hx;simp[execOp,resolve,invoke,builtin,h2,this,goInt]) h
end
end Go.Via
namespace Go.Via
variable[Mo]
open Go Go.RowKit Go.MapKept
abbrev IM:=List (Int×Value)
def kvI(l:IM):List (Value×Value):=l.map fun p=>(.int .i64 p.1,p.2)
def kvE(e:MapEntry):Value×Value:=(e.key,e.val)
noncomputable def mI(l:IM):Nat:=mE (kvI l)
def VD(l:IM):Bool:=l.all fun p=>Value.simple p.2
def Ue{l:IM}(h:VD l=true):tN (kvI l)=true:=by
 unfold tN kvI;rw[List.all_map];refine List.all_eq_true.2 fun p hp=>?_
 have:=List.all_eq_true.1 h p hp;simp[Value.simple,Value.simple0] at this ⊢;exact this
theorem bf.map{B:Bs}{w:World}{L:List aG}(h:bf B L w){k:Nat}{g:Nat}{l:IM}{own:Bool}(hs:VD l=true)(hk:L[k]? =some ⟨some g,mI l,[],0,own⟩):
 ∃es clock,w.heap[g]? =some (.map es clock)∧es.toList.map kvE=kvI l∧Stamped es clock:=by
 rcases((h.blk k _ hk).1 g rfl).1 with⟨cur,⟨_,_,_,_,hlt⟩,_⟩|⟨l',es,clock,a1,_,_,a4,a5,a6,a7⟩
 ·exact absurd hlt (qio _)
 ·have e:kvI l=l':=by
   rcases a1 with a1|⟨_,_,a1,_⟩
   ·exact qgb (Ue hs) a4 a1
   ·exact absurd a1 qgc
  subst e;exact⟨es,clock,a5,a6,a7⟩
section
variable{P:Program}{bl:List Nat}{ops:Array Oper}{K:St->Prop}{rest:List Oper}{nt:Nat}{t:List (Nat×Value)}{L:List aG}{d:Nat}{ty:TypeId}{pos:String}{af:Array Edge}{gd:Option (Nat×Bool)}{x y z:Operand}
end
end Go.Via
namespace Go.Via
variable[Mo]
open Go Go.RowKit
section
variable{P:Program}{bl:List Nat}{ops:Array Oper}{K:St->Prop}{rest:List Oper}{nt:Nat}{t:List (Nat×Value)}{L:List aG}{d:Nat}{ty:TypeId}{pos:String}{af:Array Edge}{g:Option (Nat×Bool)}{x y:Operand}
def Js{f:Nat}{args:List Operand}{ts:Array TypeId}{caps vs:List Value}{B:Bs}{w:World}{s:St}{a:Act}{dst:Option Nat}(hp:ja P f=true)(hr:lh B s a w)(hf:ev s.t x=some (.func (.func f) #[] caps.toArray))(hv:args.map (ev s.t)=vs.map some):
 (execOp a.eval ⟨dst,.call {callee:= .value x,args:=args.toArray,argTypes:=ts},ty,pos,af,g⟩).run P w= .ok (.enter f (vs++caps).toArray) w:=by
 have hfv:=hr.ev hf;have hva:args.toArray.map a.eval=vs.toArray:=(by simp[oJ hr hv]);unfold ja at hp;cases hq:P.funcs[f]? with
 |none=>rw[hq] at hp;cases hp
 |some fn=>
  rw[hq] at hp;simp only[Bool.and_eq_true,Bool.not_eq_true'] at hp;obtain⟨h1,h2⟩:=hp;have h3:fn.body≠none:=by intro hb;rw[hb] at h1;cases h1
  have h4:¬fn.name= "runtime.NumGoroutine" :=(by simpa using h2);simp[execOp,resolve,hfv,hva,Deferred.ofValue,invoke,callFunc,hq,h4,h3]
def qcY{f:Nat}{args:List Operand}{ts:Array TypeId}{caps:List Value}(vs:List Value){L0:List aG}{X:Type}[hX:Nonempty X]{res:X->Value}{new:X->List aG}(ks:List Nat)(hd:Nat.blt d nt=true)(hg:ax ops ⟨some d,.call {callee:= .value x,args:=args.toArray,argTypes:=ts},ty,pos,af,g⟩ t=some true)
 (hf:ev t x=some (.func (.func f) #[] caps.toArray))(hv:args.map (ev t)=vs.map some)(hc:dh P f L0 (vs++caps) X res new)(hp:jr L (ks.map some) L0)(ho:(L0.all fun b=> !b.own)=true)(hn:∀x,∀b∈new x,b.own=true)
 (h:∀x,aW P bl ops rest ⟨nt,(d,res x)::t,L++new x⟩ K):
 aW P bl ops (⟨some d,.call {callee:= .value x,args:=args.toArray,argTypes:=ts},ty,pos,af,g⟩::rest) ⟨nt,t,L⟩ K:=
 Eg hd hg rfl (X:=X) (res:=res) (new:=new) (fun B a w hr=>⟨f,(vs++caps).toArray,Js hc.1 hr hf hv,(hc.2 w (hr.mem.asArgs ks hp (fun b hb=>by simpa using List.all_eq_true.1 ho b hb))).mono (by
 rintro e w' ⟨x,rfl,hx⟩;exact⟨x,rfl,hr.mem.joinF hx (hn x)⟩)⟩) (fun _=>⟨fun B a w hr=>⟨f,(vs++caps).toArray,Js hc.1 hr hf hv,(hc.2 w (hr.mem.asArgs ks hp (fun b hb=>by simpa using List.all_eq_true.1 ho b hb))).mono (by
 rintro e w' ⟨x,rfl,hx⟩;exact⟨x,rfl,hx,hn x⟩)⟩,hX⟩) fun x=>h x
def ZG{f:Nat}{args:List Operand}{ts:Array TypeId}{caps:List Value}(vs:List Value){L0:List aG}{v:Value}(ks:List Nat)(hd:Nat.blt d nt=true)(hg:ax ops ⟨some d,.call {callee:= .value x,args:=args.toArray,argTypes:=ts},ty,pos,af,g⟩ t=some true)
 (hf:ev t x=some (.func (.func f) #[] caps.toArray))(hv:args.map (ev t)=vs.map some)(hc:dh P f L0 (vs++caps) Unit (fun _=>v) (fun _=>[]))(hp:jr L (ks.map some) L0)(ho:(L0.all fun b=> !b.own)=true)
 (h:aW P bl ops rest ⟨nt,(d,v)::t,L⟩ K):
 aW P bl ops (⟨some d,.call {callee:= .value x,args:=args.toArray,argTypes:=ts},ty,pos,af,g⟩::rest) ⟨nt,t,L⟩ K:=
 qcY vs ks hd hg hf hv hc hp ho (fun x b hb=>by cases hb) fun x=>by
  have:L++([]:List aG)=L:=List.append_nil L;show aW P bl ops rest ⟨nt,(d,v)::t,L++[]⟩ K;rw[this];exact h
end
end Go.Via
namespace Go.Via
variable[Mo]
open Go Go.RowKit
structure OR(need s:Nat) where
 b:Option Nat
 n:Nat
 cap:Nat
 h:need<=cap
 hn:cap*s<=n
section
variable{P:Program}{bl:List Nat}{ops:Array Oper}{K:St->Prop}{rest:List Oper}{nt:Nat}{t:List (Nat×Value)}{L:List aG}{d:Nat}{ty:TypeId}{pos:String}{af:Array Edge}{g:Option (Nat×Bool)}{x y:Operand}
def Uf{T e:Nat}{inf:TypeInfo}{z:Value}{b:aG}{len cap b2o off2 n2 c2:Nat}{b2:aG}(hem:e<dC)(k k2:Nat)(news:List Value)(mk:AR (len+n2) inf.size->List aG)(hT:P.underlying T=some (.slice e))(hi:P.info? e=some inf)(hz:inf.zero=some z)(hs:0<inf.size)(hzs:z.cells.size=inf.size)(hbytes:inf.bytes<=1024)(hd:Nat.blt d nt=true)
 (hg:ax ops ⟨some d,.call {callee:= .builtin .append,args:= #[x,y],argTypes:= #[T,T]},ty,pos,af,g⟩ t=some true)
 (hk:L[k]? =some b)(ho:b.own=true)(he:b.e=e)(hlen:b.cs.length=len*inf.size)(hcap:len<=cap)(hn:cap*inf.size<=b.n)(hx:ev t x=some (az b.base 0 len cap))
 (hk2:L[k2]? =some b2)(hnew:(b2.cs.drop off2).take (n2*inf.size)=news)(hlen2:news.length=n2*inf.size)(hpos:0<n2)(hb2:b2.base=some b2o)(hy:ev t y=some (az (some b2o) off2 n2 c2))(h1:∀v∈news,v.oneCell'=true)(hmax:len+n2<=17179869184)
 (hL:∀r,L.set k ⟨some r.g,e,b.cs++news,r.n,true⟩=mk r)
 (h:∀r:AR (len+n2) inf.size,aW P bl ops rest ⟨nt,(d,az (some r.g) 0 (len+n2) r.cap)::t,mk r⟩ K):
 aW P bl ops (⟨some d,.call {callee:= .builtin .append,args:= #[x,y],argTypes:= #[T,T]},ty,pos,af,g⟩::rest) ⟨nt,t,L⟩ K:=
 MM hd hg rfl rfl (X:=AR (len+n2) inf.size) (nx:=fun r=>⟨nt,(d,az (some r.g) 0 (len+n2) r.cap)::t,mk r⟩) (fun hd'=>Jj fun B a w hr=>by
 have hx':=hr.ev hx;have hy':=hr.ev hy
 have hnews:∀j u,news[j]? =some u->w.cell? ((⟨b2o,off2,none⟩:Addr).add j)=some u:=fun j u hj=>by
  have hj2:b2.cs[off2+j]? =some u:=by
   rw[<-hnew] at hj;rw[List.getElem?_take] at hj
   split at hj
   ·rwa [List.getElem?_drop] at hj
   ·cases hj
  obtain⟨g',hg',h2⟩:=hr.mem.cell hk2 hj2;rw[hb2] at hg';cases hg';rw[jW];exact h2
 have hsrc:=Src.ofSlice (P:=P) w (size:=inf.size) hT ⟨b2o,off2,none⟩ n2 c2 news hlen2 hnews h1;have fin:∀v w',(Builtin.append_ #[T,T] ty #[az b.base 0 len cap,az (some b2o) off2 n2 c2]).run P w= .ok v w'->(execOp a.eval ⟨some d,.call {callee:= .builtin .append,args:= #[x,y],argTypes:= #[T,T]},ty,pos,af,g⟩).run P w= .ok (.value v) w':=fun v w' hv=>by
  simp[execOp,resolve,invoke,builtin,hx',hy',hv]
 by_cases hroom:len+n2<=cap
 ·
  obtain⟨gg,hgg⟩:∃gg,b.base=some gg:=by
   cases hbb:b.base with
   |some gg=>exact⟨gg,rfl⟩
   |none=>
    have:=((hr.mem.blk k b hk).2 hbb).2;have h3:1*1<=cap*inf.size:=Nat.mul_le_mul (by omega) hs;omega
  obtain⟨cur,⟨e',fr,c1,cfr,_⟩,c2',c3⟩:=((hr.mem.blk k b hk).1 gg hgg).cells (.inl (by
 have h3:1*1<=cap*inf.size:=Nat.mul_le_mul (by omega) hs;omega))
  obtain⟨rfl,rfl⟩:=cfr ho;have hroomc:(len+n2)*inf.size<=cap*inf.size:=Nat.mul_le_mul_right _ hroom;have hsum:(len+n2)*inf.size=len*inf.size+n2*inf.size:=Nat.add_mul ..;have hfit:0+len*inf.size+news.length<=cur.size:=by rw[hlen2];omega
  have r1:=run_append_room_src (P:=P) w T T ty e inf hT hi gg 0 len cap (az (some b2o) off2 n2 c2) n2 news hsrc hroom
   (fun j hj=>by
 rw[cell_of_row w gg _ cur b.e (0,0) c1];rw[Array.getElem?_eq_getElem (by omega)];rfl)
   (fun j hj=>by simp[World.frozen?,c1])
  rw[yE news w gg _ cur b.e c1 hfit] at r1;refine⟨_,_,(⟨gg,b.n,cap,hroom,hn⟩:AR (len+n2) inf.size),fin _ _ (by unfold az at r1 ⊢;rw[hgg];exact r1),?_⟩;refine hr.put hd' ?_;rw[<-hL];have hcur:cur.toList.take (0+len*inf.size)=b.cs:=by rw[Nat.zero_add,<-hlen];exact c3
  have h5:=hr.mem.set hk ho hgg (cur.toList.take (0+len*inf.size)++news++cur.toList.drop (0+len*inf.size+news.length)).toArray (b.cs++news)
   (by simp only[List.size_toArray,List.length_append,List.length_take,List.length_drop,Array.length_toList];omega)
   (by
 rw[hcur];simp only[List.append_assoc];rw[List.length_append,<-List.append_assoc,<-List.length_append];exact List.take_left)
  rw[hgg] at h5;rw[ho] at h5;rw[he] at h5;exact h5
 ·
  have hold:(Builtin.firstCells inf.size len (az b.base 0 len cap)).run P w.drew= .ok b.cs.toArray w.drew:=by
   cases hbb:b.base with
   |none=>
    have:=((hr.mem.blk k b hk).2 hbb).1;rw[this];exact run_firstCells_none w.drew inf.size len len cap
   |some gg=>
    refine run_firstCells_some (P:=P) w.drew inf.size len ⟨gg,0,none⟩ len cap b.cs hlen (fun j v hj=>?_);obtain⟨g',hg',h2⟩:=hr.mem.cell hk hj;rw[hbb] at hg';cases hg';rw[jW,Nat.zero_add];exact h2
  have hge:=grownCap_ge w (len+n2) cap e;have hbb:(len+n2)*inf.bytes<=17179869184*1024:=Nat.mul_le_mul hmax hbytes;have hfit:Builtin.nextslicecap (len+n2) cap*inf.bytes<=281474976710656:=growslice_fits (by omega) (by omega);have r1:=run_append_grow_src (P:=P) w T T ty e inf z hT hi hz (b.base.map fun g=>⟨g,0,none⟩) len cap b.cs hold (az (some b2o) off2 n2 c2) n2 news hsrc (by omega) (by omega) hfit;refine⟨_,_,(⟨w.heap.size,(((b.cs++news).toArray++Builtin.zeroCells z.cells (grownCap w (len+n2) cap e-(len+n2))):Array Value).size,grownCap w (len+n2) cap e,hge,?_⟩:AR (len+n2) inf.size),fin _ _ r1,?_⟩
  ·have hz':(Builtin.zeroCells z.cells (grownCap w (len+n2) cap e-(len+n2))).size=(grownCap w (len+n2) cap e-(len+n2))*inf.size:=by
    unfold Builtin.zeroCells;simp[hzs]
   have hm:(grownCap w (len+n2) cap e-(len+n2))*inf.size+(len+n2)*inf.size=grownCap w (len+n2) cap e*inf.size:=by
    rw[<-Nat.add_mul,Nat.sub_add_cancel hge]
   have hsum:(len+n2)*inf.size=len*inf.size+n2*inf.size:=Nat.add_mul ..;rw[Array.size_append,hz'];simp only[List.size_toArray,List.length_append];omega
  ·refine hr.put hd' ?_;rw[<-hL];have h5:=(hr.mem.drew.alloc e ((b.cs++news).toArray++Builtin.zeroCells z.cells (grownCap w (len+n2) cap e-(len+n2))) hem);refine(h5.last (b':=⟨some w.heap.size,e,b.cs++news,((b.cs++news).toArray++Builtin.zeroCells z.cells (grownCap w (len+n2) cap e-(len+n2)):Array Value).size,true⟩) ⟨rfl,rfl,rfl,⟨(b.cs++news).length,?_⟩,fun _=>rfl⟩).swapIn k
   rw[Array.toList_append];exact(List.take_left (l₁:=b.cs++news)).symm) fun r=>h r
def fK{T e s:Nat}{zz:Value}{b:aG}{len cap off2 n2 c2:Nat}{b2:aG}(k k2:Nat)(news:List Value)(mk:OR (len+n2) s->List aG)(hT:P.underlying T=some (.slice e))(hi:LM P e s zz)(hd:Nat.blt d nt=true)
 (hg:ax ops ⟨some d,.call {callee:= .builtin .append,args:= #[x,y],argTypes:= #[T,T]},ty,pos,af,g⟩ t=some true)
 (hk:L[k]? =some b)(ho:b.own=true)(he:b.e=e)(hx:ev t x=some (az b.base 0 len cap))(hk2:L[k2]? =some b2)(hy:ev t y=some (az b2.base off2 n2 c2))(hs:Nat.blt 0 s=true)(hzs:zz.cells.size=s)
 (hlen:b.cs.length=len*s)(hcap:len<=cap)(hn:cap*s<=b.n)(hb2:n2=0∨∃g,b2.base=some g)(hnew:(b2.cs.drop off2).take (n2*s)=news)(hlen2:news.length=n2*s)(h1:∀v∈news,v.oneCell'=true)(hmax:len+n2<=17179869184)
 (hL:∀r,L.set k ⟨r.b,e,b.cs++news,r.n,true⟩=mk r)
 (h:∀r:OR (len+n2) s,aW P bl ops rest ⟨nt,(d,az r.b 0 (len+n2) r.cap)::t,mk r⟩ K):
 aW P bl ops (⟨some d,.call {callee:= .builtin .append,args:= #[x,y],argTypes:= #[T,T]},ty,pos,af,g⟩::rest) ⟨nt,t,L⟩ K:=by
 obtain⟨inf,i1,i2,i3,i5⟩:=zJ hi;subst i3;rcases Nat.eq_zero_or_pos n2 with h0|h0
 ·subst h0;refine Uc hT i1 hd hg hx hcap hy ?_;have hnw:news=[]:=List.eq_nil_of_length_eq_zero (by rw[hlen2];omega);have:=h ⟨b.base,b.n,cap,hcap,hn⟩;rw[<-hL,hnw,List.append_nil] at this;have hb:(⟨b.base,e,b.cs,b.n,true⟩:aG)=b:=by rw[<-he,<-ho]
  rw[show(⟨b.base,b.n,cap,hcap,hn⟩:OR (len+0) inf.size).b=b.base from rfl,show(⟨b.base,b.n,cap,hcap,hn⟩:OR (len+0) inf.size).n=b.n from rfl,hb] at this;have hset:L.set k b=L:=by
   obtain⟨q1,q2⟩:=List.getElem?_eq_some_iff.1 hk;rw[<-q2];exact List.set_getElem_self q1
  rw[hset] at this;exact this
 ·obtain⟨b2o,hb2⟩:=hb2.resolve_left (by omega);rw[hb2] at hy;exact Uf hi.2 k k2 news (fun r=>mk ⟨some r.g,r.n,r.cap,r.h,r.hn⟩) hT i1 i2 (by simpa using hs) hzs (by omega) hd hg hk ho he hlen hcap hn hx hk2 hnew hlen2 h0 hb2 hy h1 hmax (fun r=>hL ⟨some r.g,r.n,r.cap,r.h,r.hn⟩) (fun r=>h ⟨some r.g,r.n,r.cap,r.h,r.hn⟩)
end
end Go.Via
namespace Go.Via
variable[Mo]
open Go Go.RowKit
section
variable{P:Program}{bl:List Nat}{ops:Array Oper}{K:St->Prop}{rest:List Oper}{nt:Nat}{t:List (Nat×Value)}{L:List aG}{d:Nat}{ty:TypeId}{pos:String}{af:Array Edge}{g:Option (Nat×Bool)}{x y:Operand}
def yF{T:Nat}{j:Nat}{i:TI}{gg:Nat}(off fo:Nat){fs:Nat}(hd:Nat.blt d nt=true)(hg:ax ops ⟨some d,.fieldAddr T x j,ty,pos,af,g⟩ t=some true)(hx:ev t x=some (.pointer (some ⟨gg,off,none⟩)))(hi:eP P T i=true)
 (hf:i.flds[j]? =some (fo,fs+1)){off':Nat}(ho:off+fo=off')(h:aW P bl ops rest ⟨nt,(d,.pointer (some ⟨gg,off',none⟩))::t,L⟩ K):
 aW P bl ops (⟨some d,.fieldAddr T x j,ty,pos,af,g⟩::rest) ⟨nt,t,L⟩ K:=
 gq hd hg rfl (fun B a w hr=>by
 have h2:=hr.ev hx;obtain⟨fs',f,h3,h4,h5,h6⟩:=TP hi hf;simp only at h5 h6;have hsz:(sizeOf f.type).run P w= .ok (fs+1) w:=by
  cases hq:P.info? f.type with
  |none=>rw[hq] at h6;simp at h6
  |some inf=>rw[hq] at h6;simp at h6;simp[sizeOf,typeInfo,hq,h6]
 subst ho;simp[execOp,h2,Instr.fieldAt,run_underlying h3,h4,Instr.sureAddr,fieldPlace,hsz,jW,h5]) h
end
def Dl{P:Program}{B:Bs}{Q:Exit->Act->World->Prop}{nt:Nat}{t:List (Nat×Value)}{L:List aG}{id:Nat}{l l':List Oper}{X:Type}(Tm:X->List (Nat×Value))(Lm:X->List aG)(E:List Nat)(n:Nat)(hm:P.follows .mixedOrders=true)
 (hc:(Region.noSelect l.toArray&&Bg l.toArray (Array.replicate l.toArray.size false) E&&decide (E.length+n=l.toArray.size))=true)(hl:E.map (fun i=>l.toArray.getD i default)=l')
 (h:aW P [] l.toArray l' ⟨nt,t,[]⟩ (fun s'=>zK P l.toArray (fun s'=>∃x:X,s'.nt=nt∧jX s'.t (Tm x)∧List.Perm s'.L (Lm x)) n (E.foldl (fun(x:Array Bool) i=>x.setIfInBounds i true) (Array.replicate l.toArray.size false)) ⟨nt,s'.t,L⟩))
 (hk:∀x,At B ⟨nt,Tm x,Lm x⟩ (Q .normal)):
 At B ⟨nt,t,L⟩ ((Code.region id l.toArray true).wp P Q):=fun a w hr=>by
 simp only[Bool.and_eq_true,decide_eq_true_eq] at hc;obtain⟨⟨h1,h2⟩,h3⟩:=hc;subst hl;refine wp_region_any hm ?_
 suffices hs:wpAny P .any l.toArray Q (E.length+n) (Array.replicate l.toArray.size false) a {w with drawn:=w.drawn+1} by rw[h3] at hs;exact hs
 refine su (Q:=vZ (Q .normal)) (Q':=Q) (fun _ _ h=>h) (fun _ _ _ h=>h.elim) (fun⟨_,_,h⟩=>h.elim) _ _ _ _ ?_;refine zN (B:=B) (G:=fun t listed=>zK P l.toArray (fun s'=>∃x:X,s'.nt=nt∧jX s'.t (Tm x)∧List.Perm s'.L (Lm x)) n listed ⟨nt,t,L⟩) h1 (fun t listed a hG hrel=>OT (Q:=vZ (Q .normal)) (fun s' a' w' ⟨x,q1,q2,q3⟩ hr'=>hk x a' w' (by
 have:=hr'.sub (t:=Tm x) fun d v hd=>q2.mem (d,v) (uG hd)
 rw[q1] at this;exact⟨this.df,this.size,this.tmp,this.mem.perm q3⟩)) _ _ _ _ _ hG hrel) E _ t a h2 h hr.drew
end Go.Via
namespace Go.Via
variable[Mo]
open Go Go.RowKit
def OW{P:Program}{B:Bs}{s:St}{Q:Exit->Act->World->Prop}{x y:Code}{nt:Nat}(T:List (Nat×Value))(LL:List aG)
 (h1:At B s (x.wp P (Exit.then (fun a w=>lh B ⟨nt,T,LL⟩ a w) Q)))(h2:At B ⟨nt,T,LL⟩ (y.wp P Q)):At B s ((Code.seq x y).wp P Q):=
 TR fun a w hr=>Code.wp_mono (fun e a w h=>by
 cases e with
 |normal=>exact h2 a w h
 |_=>exact h) (h1 a w hr)
def rC{B:Bs}{nt:Nat}{t T:List (Nat×Value)}{L LL:List aG}(lk:jX t T)(hw:eG L LL):At B ⟨nt,t,L⟩ (fun a w=>lh B ⟨nt,T,LL⟩ a w):=fun a w hr=>
 ⟨hr.df,hr.size,fun d v hd=>hr.tmp d v (lk.mem (d,v) (uG hd)),hw _ _ hr.mem⟩
end Go.Via
namespace Go.Via
variable[Mo]
open Go Go.RowKit
noncomputable abbrev gB(T:LK)(own:Bool):aG:=⟨none,gE T,[],0,own⟩
section
variable{P:Program}{bl:List Nat}{ops:Array Oper}{K:St->Prop}{rest:List Oper}{nt:Nat}{t:List (Nat×Value)}{L:List aG}{d:Nat}{ty:TypeId}{pos:String}{af:Array Edge}{g:Option (Nat×Bool)}
end
theorem bf.setG{B:Bs}{w:World}{L:List aG}(h:bf B L w){j:Nat}{b:aG}(hj:L[j]? =some b)(hb:b.base=none)(T:LK)(o:Bool)(hT:Hy T=true)
 (hf:∀p∈T,tV w p∧(o=true->B.own p.1)∧∀c∈L,c.own=true->c.base≠some p.1):bf B (L.set j (gB T o)) w:=by
 have hjl:=(List.getElem?_eq_some_iff.1 hj).1;have at_:∀(m:Nat) (c:aG),(L.set j (gB T o))[m]? =some c->c=gB T o∨(m≠j∧L[m]? =some c):=fun m c hm=>by
  by_cases e:j=m
  ·subst e;rw[List.getElem?_set_self hjl] at hm;cases hm;exact .inl rfl
  ·rw[List.getElem?_set_ne e] at hm;exact .inr ⟨fun h=>e h.symm,hm⟩
 have mem_:∀c∈L.set j (gB T o),c=gB T o∨c∈L:=fun c hc=>(List.mem_or_eq_of_mem_set hc).symm
 refine⟨h.bel,fun m c hm=>?_,fun i k g bi bk hik hi hk ho hg hgk=>?_,fun c hc hn U hU he p hp=>?_⟩
 ·rcases at_ m c hm with rfl|⟨_,h1⟩
  ·exact⟨fun g hg=>(by cases hg),fun _=>⟨rfl,rfl⟩⟩
  ·exact h.blk m c h1
 ·rcases at_ i bi hi with rfl|⟨_,h1⟩
  ·cases hg
  ·rcases at_ k bk hk with rfl|⟨_,h2⟩
   ·cases hgk
   ·exact h.apart i k g bi bk hik h1 h2 ho hg hgk
 ·rcases mem_ c hc with rfl|h1
  ·obtain rfl:=qgd hT hU he;obtain⟨a1,a2,a3⟩:=hf p hp;refine⟨a1,a2,fun c' hc' ho'=>?_⟩
   rcases mem_ c' hc' with rfl|h2
   ·intro e;cases e
   ·exact a3 c' h2 ho'
  ·obtain⟨a1,a2,a3⟩:=h.grp c h1 hn U hU he p hp;refine⟨a1,a2,fun c' hc' ho'=>?_⟩
   rcases mem_ c' hc' with rfl|h2
   ·intro e;cases e
   ·exact a3 c' h2 ho'
end Go.Via
namespace Go.Via
variable[Mo]
open Go Go.RowKit
def Hz(L:List aG)(g:Nat):Prop:=∃b∈L,b.own=true∧b.base=some g
def bf.ownG{B:Bs}{w:World}{L:List aG}(h:bf B L w){b:aG}(hb:b∈L)(ho:b.own=true){g:Nat}(hg:b.base=some g):B.own g:=by
 obtain⟨k,hk⟩:=List.mem_iff_getElem?.1 hb;exact((h.blk k b hk).1 g hg).2 ho
def bf.ltG{B:Bs}{w:World}{L:List aG}(h:bf B L w){b:aG}(hb:b∈L){g:Nat}(hg:b.base=some g):g<w.heap.size:=by
 obtain⟨k,hk⟩:=List.mem_iff_getElem?.1 hb;exact h.lt hk hg
def bf.rebase{B:Bs}{w:World}{L:List aG}(h:bf B L w)(hO:(L.all fun b=>Nat.blt b.e dC||(!b.own||b.base.isSome))=true):bf ⟨w,Hz L,[]⟩ L w:=by
 refine⟨⟨rfl,rfl,rfl,Nat.le_refl _,fun _ _ _=>rfl,fun _=>Nat.le_refl _⟩,fun k b hk=>?_,h.apart,fun b hb hn T hT he p hp=>?_⟩
 ·obtain⟨h1,h2⟩:=h.blk k b hk;exact⟨fun g hg=>⟨(h1 g hg).1,fun ho=> .inr ⟨b,List.mem_of_getElem? hk,ho,hg⟩⟩,h2⟩
 ·obtain⟨a1,_,a3⟩:=h.grp b hb hn T hT he p hp;refine⟨a1,fun ho=>?_,a3⟩
  have:=List.all_eq_true.1 hO b hb;rw[ho,hn] at this;have h2:Nat.blt b.e dC=true:=(by simpa using this);have h3:b.e<dC:=(by simpa using h2);exact absurd (he▸h3) (Jd T)
def bf.joinG{B:Bs}{w w':World}{A R new:List aG}(h:bf B (A++R) w)(h':bf ⟨w,Hz A,[]⟩ new w')(hA:∀b∈A,b.own=true)(hn:∀b∈new,b.own=true∨∃a∈A,a.base=b.base∧b.base.isSome=true):bf B (new++R) w':=by
 have hS:∀g,Hz A g->B.own g:=fun g ⟨b,hb,ho,hg⟩=>h.ownG (List.mem_append_left _ hb) ho hg
 have hle:Bs.le B ⟨w,Hz A,[]⟩:=fun g hg=>by
  rcases hg with hg|hg
  ·exact .inl (Nat.le_trans h.bel.size hg)
  ·exact hS g hg
 have keep:∀g,g<w.heap.size->¬Hz A g->w'.heap[g]? =w.heap[g]? :=fun g hg hS'=>h'.bel.block g hg hS'
 have apR:∀c∈R,∀g,c.base=some g->¬Hz A g:=fun c hc g hg ⟨b,hb,ho,hbg⟩=>by
  obtain⟨i,hi⟩:=List.mem_iff_getElem?.1 hb;obtain⟨j,hj⟩:=List.mem_iff_getElem?.1 hc;have hil:=(List.getElem?_eq_some_iff.1 hi).1;exact h.apart i (A.length+j) g b c (by omega) (by rw[List.getElem?_append_left hil];exact hi) (by rw[List.getElem?_append_right (by omega),Nat.add_sub_cancel_left];exact hj) ho hbg hg
 have ownN:∀b∈new,∀g,b.base=some g->w.heap.size<=g∨Hz A g:=fun b hb g hg=>by
  obtain⟨k,hk⟩:=List.mem_iff_getElem?.1 hb;rcases hn b hb with h1|⟨a,ha,h1,_⟩
  ·exact((h'.blk k b hk).1 g hg).2 h1
  ·exact .inr ⟨a,ha,hA a ha,h1.trans hg⟩
 have farN:∀b∈new,∀g,b.base=some g->∀c∈R,c.base≠some g:=fun b hb g hg c hc hcg=>by
  rcases ownN b hb g hg with h1|h1
  ·have:=h.ltG (List.mem_append_right _ hc) hcg;omega
  ·exact apR c hc g hcg h1
 refine⟨⟨h'.bel.os.trans h.bel.os,h'.bel.tape.trans h.bel.tape,h'.bel.output.trans h.bel.output,Nat.le_trans h.bel.size h'.bel.size,fun k hk hk'=>?_,fun m=>Nat.le_trans (h.bel.drawn m) (h'.bel.drawn m)⟩,fun k b hk=>?_,fun i j g bi bj hij hi hj ho hg hgj=>?_,fun b hb hb0 T hT he p hp=>?_⟩
 ·have h1:¬Hz A k:=fun hq=>by
   rcases hS k hq with h2|h2
   ·omega
   ·exact hk' h2
  exact(keep k (Nat.lt_of_lt_of_le hk h.bel.size) h1).trans (h.bel.block k hk hk')
 ·rw[List.getElem?_append] at hk
  split at hk
  ·obtain⟨a1,a2⟩:=h'.blk k b hk;exact⟨fun g hg=>⟨(a1 g hg).1,fun ho=>hle _ ((a1 g hg).2 ho)⟩,a2⟩
  ·have hbR:=List.mem_of_getElem? hk;obtain⟨j,hj⟩:=List.mem_iff_getElem?.1 hbR;obtain⟨a1,a2⟩:=h.blk (A.length+j) b (by rw[List.getElem?_append_right (by omega),Nat.add_sub_cancel_left];exact hj);exact⟨fun g hg=>(a1 g hg).heap (keep g (a1 g hg).lt (apR b hbR g hg)),a2⟩
 ·rw[List.getElem?_append] at hi hj
  split at hi<;>split at hj
  ·exact h'.apart i j g bi bj hij hi hj ho hg hgj
  ·exact farN bi (List.mem_of_getElem? hi) g hg bj (List.mem_of_getElem? hj) hgj
  ·exact farN bj (List.mem_of_getElem? hj) g hgj bi (List.mem_of_getElem? hi) hg
  ·exact h.apart (A.length+(i-new.length)) (A.length+(j-new.length)) g bi bj (by omega) (by rw[List.getElem?_append_right (by omega),Nat.add_sub_cancel_left];exact hi) (by rw[List.getElem?_append_right (by omega),Nat.add_sub_cancel_left];exact hj) ho hg hgj
 ·rcases List.mem_append.1 hb with hb|hb
  ·obtain⟨a1,a2,a3⟩:=h'.grp b hb hb0 T hT he p hp;refine⟨a1,fun ho=>hle _ (a2 ho),fun c hc ho hg=>?_⟩
   rcases List.mem_append.1 hc with hc|hc
   ·exact a3 c hc ho hg
   ·rcases a2 ((hn b hb).resolve_right fun⟨_,_,_,h1⟩=>by rw[hb0] at h1;cases h1) with h1|h1
    ·have h1:w.heap.size<=p.1:=h1;have:=h.ltG (List.mem_append_right _ hc) hg;omega
    ·exact apR c hc _ hg h1
  ·obtain⟨a1,a2,a3⟩:=h.grp b (List.mem_append_right _ hb) hb0 T hT he p hp;have hnS:¬Hz A p.1:=fun⟨c,hc,ho,hg⟩=>a3 c (List.mem_append_left _ hc) ho hg
   refine⟨a1.heap (keep p.1 a1.lt hnS),a2,fun c hc ho hg=>?_⟩
   rcases List.mem_append.1 hc with hc|hc
   ·rcases ownN c hc _ hg with h1|h1
    ·have:=a1.lt;omega
    ·exact hnS h1
   ·exact a3 c (List.mem_append_right _ hc) ho hg
def HY:List aG->List Nat->List aG->List aG
 |L,k::ks,b::bs=>HY (L.set k b) ks bs
 |L,_,_=>L
def zO:List (Option aG)->List Nat->List aG->List (Option aG)
 |M,k::ks,b::bs=>zO (M.set k (some b)) ks bs
 |M,_,_=>M
def uH:List (Option aG)->List Nat->List (Option aG)
 |M,[]=>M
 |M,k::ks=>uH (M.set k none) ks
def qfD(L:List aG)(ks:List Nat):List aG:=(uH (L.map some) ks).filterMap id
theorem QI:∀(ks:List Nat) (L bs:List aG),(HY L ks bs).map some=zO (L.map some) ks bs
 |[],L,bs=>by simp[HY,zO]
 |k::ks,L,[]=>by simp[HY,zO]
 |k::ks,L,b::bs=>by rw[HY,zO,QI ks,List.map_set]
theorem Jt:∀(ks:List Nat) (M:List (Option aG)) (bs:List aG),ks.Nodup->bs.length=ks.length->zO (uH M ks) ks bs=zO M ks bs
 |[],M,bs,_,_=>rfl
 |k::ks,M,[],_,h=>by simp at h
 |k::ks,M,b::bs,hn,h=>by
  have hn':=List.nodup_cons.1 hn;rw[uH,zO,zO];have e:(uH (M.set k none) ks).set k (some b)=uH (M.set k (some b)) ks:=by
   have key:∀(ks:List Nat) (M:List (Option aG)) (o:Option aG),k∉ks->(uH M ks).set k o=uH (M.set k o) ks:=by
    intro ks
    induction ks with
    |nil=>intro M o _;rfl
    |cons j ks ih=>
     intro M o hk;simp only[List.mem_cons,not_or] at hk;rw[uH,uH,ih _ _ hk.2,List.set_comm _ _ (fun e=>hk.1 e.symm)]
   rw[key ks _ _ hn'.1,List.set_set]
  rw[e];exact Jt ks _ bs hn'.2 (by simpa using h)
def Ju:∀(M:List (Option aG)) (k:Nat) (b:aG),M[k]? =some none->((M.set k (some b)).filterMap id).Perm (b::M.filterMap id)
 |[],k,b,h=>by simp at h
 |o::M,0,b,h=>by
  simp at h;subst h;simp
 |o::M,k+1,b,h=>by
  rw[List.getElem?_cons_succ] at h;have ih:=Ju M k b h;cases o with
  |none=>simpa using ih
  |some c=>
   simp only[List.set_cons_succ,List.filterMap_cons,id];exact(ih.cons c).trans (List.Perm.swap _ _ _)
def MR:∀(ks:List Nat) (M:List (Option aG)) (bs:List aG),ks.Nodup->(∀k∈ks,M[k]? =some none)->bs.length=ks.length->((zO M ks bs).filterMap id).Perm (bs++M.filterMap id)
 |[],M,[],_,_,_=>List.Perm.refl _
 |[],M,_::_,_,_,h=>by simp at h
 |k::ks,M,[],_,_,h=>by simp at h
 |k::ks,M,b::bs,hn,hM,h=>by
  have hn':=List.nodup_cons.1 hn;have h1:=MR ks (M.set k (some b)) bs hn'.2 (fun j hj=>by
 have hne:k≠j:=fun e=>hn'.1 (e▸hj)
 rw[List.getElem?_set_ne hne];exact hM j (by simp[hj])) (by simpa using h)
  rw[zO];refine h1.trans ?_;refine((Ju M k b (hM k (by simp))).append_left bs).trans ?_;exact List.perm_middle
def qcZ:∀(ks:List Nat) (M:List (Option aG)),(∀k∈ks,k<M.length)->∀k∈ks,(uH M ks)[k]? =some none:=by
 intro ks
 induction ks with
 |nil=>intro M _ k hk;cases hk
 |cons j ks ih=>
  intro M hl k hk;rw[uH]
  by_cases hm:k∈ks
  ·exact ih _ (fun i hi=>by rw[List.length_set];exact hl i (by simp[hi])) k hm
  ·have hkj:k=j:=by rcases List.mem_cons.1 hk with h|h;exact h;exact absurd h hm
   subst hkj;have key:∀(ks:List Nat) (M:List (Option aG)),k∉ks->(uH M ks)[k]? =M[k]? :=by
    intro ks
    induction ks with
    |nil=>intro M _;rfl
    |cons i ks ih2=>
     intro M hk;simp only[List.mem_cons,not_or] at hk;rw[uH,ih2 _ hk.2,List.getElem?_set_ne (fun e=>hk.1 e.symm)]
   rw[key ks _ hm,List.getElem?_set_self (hl k (by simp))]
theorem QJ:∀(L:List aG),(L.map some).filterMap id=L
 |[]=>rfl
 |a::L=>by simp
def MS{L:List aG}{ks:List Nat}{bs:List aG}(hn:ks.Nodup)(hl:∀k∈ks,k<L.length)(h:bs.length=ks.length):(HY L ks bs).Perm (bs++qfD L ks):=by
 have h1:=MR ks (uH (L.map some) ks) bs hn (qcZ ks _ (fun k hk=>by rw[List.length_map];exact hl k hk)) h;rw[Jt ks _ bs hn h,<-QI,QJ] at h1;exact h1
theorem MV:∀{ks:List Nat} {L L0:List aG},ks.map (fun k=>L[k]?)=L0.map some->HY L ks L0=L
 |[],L,L0,h=>by cases L0<;>simp[HY]
 |k::ks,L,[],h=>by simp at h
 |k::ks,L,b::L0,h=>by
  simp only[List.map_cons,List.cons.injEq] at h;have e:L.set k b=L:=by
   obtain⟨hl,h2⟩:=List.getElem?_eq_some_iff.1 h.1;rw[<-h2];exact List.set_getElem_self hl
  rw[HY,e];exact MV h.2
def setG:List aG->List Nat->List aG->List aG
 |L,k::ks,b::bs=>setG (L.set k b) ks bs
 |L,[],new=>L++new
 |L,_::_,[]=>L
theorem VE:∀(ks:List Nat) (L bs:List aG),ks.length<=bs.length->setG L ks bs=HY L ks (bs.take ks.length)++bs.drop ks.length
 |[],L,bs,_=>by simp[setG,HY]
 |k::ks,L,[],h=>by simp at h
 |k::ks,L,b::bs,h=>by
  rw[setG,VE ks _ _ (by simpa using h)];simp[HY]
def XE{L:List aG}{ks:List Nat}{bs:List aG}(hn:ks.Nodup)(hl:∀k∈ks,k<L.length)(h:ks.length<=bs.length):(setG L ks bs).Perm (bs++qfD L ks):=by
 rw[VE _ _ _ h];have h1:=MS (L:=L) (bs:=bs.take ks.length) hn hl (by rw[List.length_take];omega);refine(h1.append_right _).trans ?_;rw[List.append_assoc];refine(List.perm_append_comm.append_left _).trans ?_;rw[<-List.append_assoc,List.take_append_drop]
def OX{A L:List aG}(h:(L.all fun b=>b.own)=true):∀b∈L,b.own=true∨∃a∈A,a.base=b.base∧b.base.isSome=true:=fun b hb=> .inl (List.all_eq_true.1 h b hb)
def Jv{L A C:List aG}(ks is:List Nat)(hn:ks.Nodup)(hk:ks.map (fun k=>L[k]?)=A.map some)
 (hA:(A.all fun b=>b.own&&(Nat.blt b.e dC||b.base.isSome))=true)(hp:jr L (is.map some) C)(hC:(C.all fun b=> !b.own)=true)(hap:lW ((ks++is).map some) ((A++C).map (·.own))=true)
 {B:Bs}{w:World}(h:bf B L w):∃B':Bs,B'.D=[]∧bf B' (A++C) w∧∀(new:List aG) (w':World),Nat.ble ks.length new.length=true->(∀b∈new,b.own=true∨∃a∈A,a.base=b.base∧b.base.isSome=true)->bf B' new w'->bf B (setG L ks new) w':=by
 have hl:∀k∈ks,k<L.length:=fun k hk'=>by
  obtain⟨i,hi⟩:=List.mem_iff_getElem?.1 hk';have h1:(ks.map fun k=>L[k]?)[i]? =some L[k]? :=by rw[List.getElem?_map,hi];rfl
  rw[hk,List.getElem?_map] at h1;obtain⟨b,_,hb⟩:=Option.map_eq_some_iff.1 h1;exact(List.getElem?_eq_some_iff.1 hb.symm).1
 have hlen0:A.length=ks.length:=(by have:=congrArg List.length hk;simpa using this.symm);have pA:∀(ks:List Nat) (A:List aG),ks.map (fun k=>L[k]?)=A.map some->jr L (ks.map some) A:=by
  intro ks
  induction ks with
  |nil=>intro A h;cases A with
   |nil=>exact trivial
   |cons=>simp at h
  |cons k ks ih=>intro A h;cases A with
   |nil=>simp at h
   |cons a A=>
    simp only[List.map_cons,List.cons.injEq] at h;exact⟨⟨a,h.1,a.le_refl⟩,ih A h.2⟩
 have pAC:∀(ks:List Nat) (A:List aG),jr L (ks.map some) A->jr L ((ks++is).map some) (A++C):=by
  intro ks
  induction ks with
  |nil=>intro A h;cases A with
   |nil=>simpa using hp
   |cons=>exact h.elim
  |cons k ks ih=>intro A h;cases A with
   |nil=>exact h.elim
   |cons a A=>exact⟨h.1,ih A h.2⟩
 have plen:∀{is:List Nat} {C:List aG},jr L (is.map some) C->is.length=C.length:=by
  intro is
  induction is with
  |nil=>intro C hp;cases C with
   |nil=>rfl
   |cons c C=>exact hp.elim
  |cons k is ih=>intro C hp;cases C with
   |nil=>exact hp.elim
   |cons c C=>simp[ih hp.2]
 have h1:=h.picks ((ks++is).map some) (pAC ks A (pA ks A hk)) (by simp[hlen0,plen hp]) hap;have hO:((A++C).all fun b=>Nat.blt b.e dC||(!b.own||b.base.isSome))=true:=by
  rw[List.all_append,Bool.and_eq_true]
  constructor
  ·refine List.all_eq_true.2 fun b hb=>?_
   have:=List.all_eq_true.1 hA b hb;simp only[Bool.and_eq_true,Bool.or_eq_true] at this;simp only[Bool.or_eq_true];exact this.2.imp id .inr
  ·refine List.all_eq_true.2 fun b hb=>?_
   have:=List.all_eq_true.1 hC b hb;simp at this;simp[this]
 have h2:=h1.rebase hO;have hSA:Hz (A++C)=Hz A:=by
  funext g
  refine propext ⟨fun⟨b,hb,ho,hg⟩=>?_,fun⟨b,hb,ho,hg⟩=>⟨b,List.mem_append_left _ hb,ho,hg⟩⟩
  rcases List.mem_append.1 hb with hb|hb
  ·exact⟨b,hb,ho,hg⟩
  ·have:=List.all_eq_true.1 hC b hb;rw[ho] at this;cases this
 rw[hSA] at h2;have hp0:=MS (L:=L) hn hl hlen0;rw[MV hk] at hp0;have hL:=h.perm hp0;refine⟨⟨w,Hz A,[]⟩,rfl,h2,fun new w' hlen hown hx=>?_⟩
 have h3:=hL.joinG hx (fun b hb=>by have:=List.all_eq_true.1 hA b hb;simp at this;exact this.1) hown;exact h3.perm (XE hn hl (Nat.le_of_ble_eq_true hlen)).symm
theorem Cm.at{P:Program}{f:Nat}{L A C:List aG}{args:List Value}{X:Type}{res:X->Value}{L1:X->List aG}(hc:Cm P f (A++C) args X res L1)(ks is:List Nat)(hn:ks.Nodup)(hk:ks.map (fun k=>L[k]?)=A.map some)
 (hA:(A.all fun b=>b.own&&(Nat.blt b.e dC||b.base.isSome))=true)(hp:jr L (is.map some) C)(hC:(C.all fun b=> !b.own)=true)(hap:lW ((ks++is).map some) ((A++C).map (·.own))=true)(hlen:∀x,Nat.ble ks.length (L1 x).length=true)(hown:∀x,∀b∈L1 x,b.own=true∨∃a∈A,a.base=b.base∧b.base.isSome=true)
 {B:Bs}{w:World}(h:bf B L w):Calls P f args.toArray w fun e w'=>∃x,e= .returned (res x)∧bf B (setG L ks (L1 x)) w':=by
 obtain⟨B',hD,h2,hb⟩:=Jv ks is hn hk hA hp hC hap h;refine(hc.2 B' w hD h2).mono ?_;rintro e w' ⟨x,rfl,hx⟩;exact⟨x,rfl,hb _ _ (hlen x) (hown x) hx⟩
section
variable{P:Program}{bl:List Nat}{ops:Array Oper}{K:St->Prop}{rest:List Oper}{nt:Nat}{t:List (Nat×Value)}{L:List aG}{d:Nat}{ty:TypeId}{pos:String}{af:Array Edge}{g:Option (Nat×Bool)}{x y:Operand}
def ZH{f:Nat}{args:List Operand}{ts:Array TypeId}{dst:Option Nat}(vs:List Value){A C:List aG}{X:Type}{res:X->Value}{L1:X->List aG}(ks is:List Nat)(mk:X->List aG)(hM:IE bl=true)(hd:(match dst with|some d=>Nat.blt d nt|none=>true)=true)
 (hg:ax ops ⟨dst,.call {callee:= .value (.func f),args:=args.toArray,argTypes:=ts},ty,pos,af,g⟩ t=some true)
 (hv:args.map (ev t)=vs.map some)(hc:Cm P f (A++C) vs X res L1)(hn:ks.Nodup)(hk:ks.map (fun k=>L[k]?)=A.map some)(hA:(A.all fun b=>b.own&&(Nat.blt b.e dC||b.base.isSome))=true)(hp:jr L (is.map some) C)(hC:(C.all fun b=> !b.own)=true)(hap:lW ((ks++is).map some) ((A++C).map (·.own))=true)
 (hlen:∀x,Nat.ble ks.length (L1 x).length=true)(hown:∀x,∀b∈L1 x,b.own=true∨∃a∈A,a.base=b.base∧b.base.isSome=true)(hL:∀x,setG L ks (L1 x)=mk x)
 (h:∀x,aW P bl ops rest (({nt:=nt,t:=t,L:=mk x}:St).put dst (res x)) K):
 aW P bl ops (⟨dst,.call {callee:= .value (.func f),args:=args.toArray,argTypes:=ts},ty,pos,af,g⟩::rest) ⟨nt,t,L⟩ K:=
 Zl hd hg hM (X:=X) (nx:=fun x=>({nt:=nt,t:=t,L:=mk x}:St).put dst (res x)) (fun hd' B a w hr=>by
 unfold Oper.wp;rw[qP hc.1 a rfl rfl (vs:=vs.toArray) (by simp[oJ hr hv]) w];refine(hc.at ks is hn hk hA hp hC hap hlen hown hr.mem).mono ?_;rintro e w' ⟨x,rfl,hw⟩;refine⟨x,?_⟩;rw[hL] at hw;exact hr.put hd' hw) h
end
end Go.Via
namespace Go.Via
variable[Mo]
open Go Go.RowKit
def Ug(l:List Oper):(List.range l.length).map (fun i=>l.toArray.getD i default)=l:=by
 apply List.ext_getElem
 ·simp
 ·intro i h1 h2;simp at h1;simp[h1]
def FW{P:Program}{B:Bs}{s:St}{Q:Exit->Act->World->Prop}{id:Nat}{l:List Oper}(bl:List Nat)(hm:P.follows .mixedOrders=true)(hc:vX bl l.toArray (List.range l.length)=true)(hf:Ji bl l.toArray s=true)
 (h:aW P bl l.toArray l s (fun s'=>At B s' (Q .normal))):At B s ((Code.region id l.toArray true).wp P Q):=QD bl _ hm hc (Ug l) hf h
def LdG(P:Program)(L:List aG)(T g off:Nat)(k:Value->Prop):Prop:=∃(j:Nat) (b:aG) (i:TI) (u v:Value),L[j]? =some b∧b.base=some g∧eP P T i=true∧(b.cs.drop off).take i.size=[u]∧i.size=1∧(bif i.agg then some (Value.agg #[u]) else some u)=some v∧k v
section
variable{P:Program}{bl:List Nat}{ops:Array Oper}{K:St->Prop}{rest:List Oper}{nt:Nat}{t:List (Nat×Value)}{L:List aG}{d:Nat}{ty:TypeId}{pos:String}{af:Array Edge}{g:Option (Nat×Bool)}{x y:Operand}
def qkp{T gg off:Nat}(hd:Nat.blt d nt=true)(hg:ax ops ⟨some d,.load T x,ty,pos,af,g⟩ t=some true)(hx:ev t x=some (.pointer (some ⟨gg,off,none⟩)))(h:LdG P (blank bl L) T gg off (fun v=>aW P bl ops rest ⟨nt,(d,v)::t,L⟩ K)):
 aW P bl ops (⟨some d,.load T x,ty,pos,af,g⟩::rest) ⟨nt,t,L⟩ K:=by
 obtain⟨j,b,i,u,v,h1,h2,h3,h4,h5,h6,h7⟩:=h;exact aO j off [u] hd hg h1 (by rw[hx];unfold aG.at;rw[h2];rfl) h3 h4 h5.symm (by rw[h5];rfl) h6 h7
def H5{T gg off:Nat}{k:Value->Prop}{b:aG}{i:TI}{u v:Value}(j:Nat)(h1:L[j]? =some b)(h2:b.base=some gg)(h3:eP P T i=true)(h4:(b.cs.drop off).take i.size=[u])(h5:i.size=1)(h6:(bif i.agg then some (Value.agg #[u]) else some u)=some v)(h7:k v):LdG P L T gg off k:=
 ⟨j,b,i,u,v,h1,h2,h3,h4,h5,h6,h7⟩
def fA{T:Nat}{j gg off fo fs:Nat}{i:TI}(hd:Nat.blt d nt=true)(hg:ax ops ⟨some d,.fieldAddr T x j,ty,pos,af,g⟩ t=some true)(hx:ev t x=some (.pointer (some ⟨gg,off,none⟩)))(hi:eP P T i=true)
 (hf:i.flds[j]? =some (fo,fs+1)){off':Nat}(ho:off+fo=off')(h:aW P bl ops rest ⟨nt,(d,.pointer (some ⟨gg,off',none⟩))::t,L⟩ K):
 aW P bl ops (⟨some d,.fieldAddr T x j,ty,pos,af,g⟩::rest) ⟨nt,t,L⟩ K:=by
 subst ho;refine gq hd hg rfl (v:= .pointer (some ⟨gg,off+fo,none⟩)) (fun B a w hr=>?_) h;have h2:=hr.ev (x:=x) (v:= .pointer (some ⟨gg,off,none⟩)) hx;obtain⟨fs',f,h3,h4,h5,h6⟩:=TP hi hf;simp only at h5 h6;have hsz:(sizeOf f.type).run P w= .ok (fs+1) w:=by
  cases hq:P.info? f.type with
  |none=>rw[hq] at h6;simp at h6
  |some inf=>rw[hq] at h6;simp at h6;simp[sizeOf,typeInfo,hq,h6]
 simp[execOp,h2,Instr.fieldAt,run_underlying h3,h4,Instr.sureAddr,fieldPlace,hsz,jW,h5]
end
def A1{P Q:Prop}(q:Q)(h:Q->P:=by
 intro q
 first
  |with_reducible exact IG q
  |with_reducible exact qiz q
  |with_reducible exact TR q
  |with_reducible exact Xw q
  |with_reducible exact qgi q
  |with_reducible exact qcK q
  |with_reducible exact Zk q
  |with_reducible exact qcL q
  |with_reducible exact qiE q
  |with_reducible exact qiA q
  |with_reducible exact qiB q
  |with_reducible exact qiC q
  |with_reducible exact qiD q
  |(with_reducible refine Zj ?_ q);rfl
  |(with_reducible refine Zi ?_ q);rfl
  |exact qgn rfl rfl rfl q
  |exact Eh rfl rfl rfl q
  |exact qko rfl rfl rfl q
  |exact Zq rfl rfl rfl rfl rfl q
  |exact qcP rfl rfl rfl rfl q
  |exact qcO rfl rfl rfl rfl q
  |exact TS rfl rfl rfl q
  |exact qix rfl rfl rfl q
  |exact Zr rfl rfl rfl rfl q
  |exact Zt rfl rfl rfl rfl q
  |(refine qkp rfl rfl rfl ?_;first|exact H5 0 rfl rfl (vV _) rfl rfl rfl q|exact H5 1 rfl rfl (vV _) rfl rfl rfl q|exact H5 2 rfl rfl (vV _) rfl rfl rfl q|exact H5 3 rfl rfl (vV _) rfl rfl rfl q|exact H5 4 rfl rfl (vV _) rfl rfl rfl q|exact H5 5 rfl rfl (vV _) rfl rfl rfl q|exact H5 6 rfl rfl (vV _) rfl rfl rfl q|exact H5 7 rfl rfl (vV _) rfl rfl rfl q|exact H5 8 rfl rfl (vV _) rfl rfl rfl q|exact H5 9 rfl rfl (vV _) rfl rfl rfl q|exact H5 10 rfl rfl (vV _) rfl rfl rfl q|exact H5 11 rfl rfl (vV _) rfl rfl rfl q)
  |exact fA rfl rfl rfl (vV _) rfl rfl q
  |exact Ua rfl rfl rfl q
  |exact FP (vs:=[_,_]) rfl rfl rfl rfl q
  |exact FP (vs:=[_,_,_]) rfl rfl rfl rfl q
  |exact FP (vs:=[_,_,_,_]) rfl rfl rfl rfl q
  |exact qgq (uA _) rfl rfl rfl q
  |exact qgu (uA _) rfl rfl rfl q
  |exact qiy rfl (uT _) rfl rfl q):P:=h q
def A2{P Q:Prop}(q:Q)(h:Q->P:=by intro q;refine A1 ?_;exact A1 q):P:=h q
def A3{P Q:Prop}(q:Q)(h:Q->P:=by intro q;refine A1 ?_;exact A2 q):P:=h q
def A4{P Q:Prop}(q:Q)(h:Q->P:=by intro q;refine A2 ?_;exact A2 q):P:=h q
def A5{P Q:Prop}(q:Q)(h:Q->P:=by intro q;refine A2 ?_;exact A3 q):P:=h q
def A6{P Q:Prop}(q:Q)(h:Q->P:=by intro q;refine A3 ?_;exact A3 q):P:=h q
def A7{P Q:Prop}(q:Q)(h:Q->P:=by intro q;refine A3 ?_;exact A4 q):P:=h q
def A8{P Q:Prop}(q:Q)(h:Q->P:=by intro q;refine A4 ?_;exact A4 q):P:=h q
def A9{P Q:Prop}(q:Q)(h:Q->P:=by intro q;refine A4 ?_;exact A5 q):P:=h q
def lm{P Q:Prop}(q:Q)(h:Q->P:=by intro q;refine A5 ?_;exact A5 q):P:=h q
def oO{P Q:Prop}(q:Q)(h:Q->P:=by intro q;refine A5 ?_;exact A6 q):P:=h q
def lX{P Q:Prop}(q:Q)(h:Q->P:=by intro q;refine A6 ?_;exact A6 q):P:=h q
def CB{P Q:Prop}(q:Q)(h:Q->P:=by intro q;refine A6 ?_;exact A7 q):P:=h q
def D6{P Q:Prop}(q:Q)(h:Q->P:=by intro q;refine A7 ?_;exact A7 q):P:=h q
def zT{P Q:Prop}(q:Q)(h:Q->P:=by intro q;refine A7 ?_;exact A8 q):P:=h q
def II{P Q:Prop}(q:Q)(h:Q->P:=by intro q;refine A8 ?_;exact A8 q):P:=h q
def MW{P Q:Prop}(q:Q)(h:Q->P:=by intro q;refine A8 ?_;exact A9 q):P:=h q
def A18{P Q:Prop}(q:Q)(h:Q->P:=by intro q;refine A9 ?_;exact A9 q):P:=h q
def A19{P Q:Prop}(q:Q)(h:Q->P:=by intro q;refine A9 ?_;exact lm q):P:=h q
def A20{P Q:Prop}(q:Q)(h:Q->P:=by intro q;refine lm ?_;exact lm q):P:=h q
def A21{P Q:Prop}(q:Q)(h:Q->P:=by intro q;refine lm ?_;exact oO q):P:=h q
def A22{P Q:Prop}(q:Q)(h:Q->P:=by intro q;refine oO ?_;exact oO q):P:=h q
def A23{P Q:Prop}(q:Q)(h:Q->P:=by intro q;refine oO ?_;exact lX q):P:=h q
def A24{P Q:Prop}(q:Q)(h:Q->P:=by intro q;refine lX ?_;exact lX q):P:=h q
def A25{P Q:Prop}(q:Q)(h:Q->P:=by intro q;refine lX ?_;exact CB q):P:=h q
def A26{P Q:Prop}(q:Q)(h:Q->P:=by intro q;refine CB ?_;exact CB q):P:=h q
def A29{P Q:Prop}(q:Q)(h:Q->P:=by intro q;refine D6 ?_;exact zT q):P:=h q
def A30{P Q:Prop}(q:Q)(h:Q->P:=by intro q;refine zT ?_;exact zT q):P:=h q
section
variable{P:Program}{bl:List Nat}{ops:Array Oper}{K:St->Prop}{rest:List Oper}{nt:Nat}{t:List (Nat×Value)}{L:List aG}{d:Nat}{ty:TypeId}{pos:String}{af:Array Edge}{g:Option (Nat×Bool)}{x y:Operand}
def Ar{op:BinOp}{T U:Nat}{k:IntKind}{m n:Int}(r:Int)(h:aW P bl ops rest ⟨nt,(d,.int k r)::t,L⟩ K)(hd:Nat.blt d nt=true:=by rfl)(hg:ax ops ⟨some d,.binOp op T x y U,ty,pos,af,g⟩ t=some true:=by rfl)(hx:ev t x=some (.int k m):=by rfl)(hy:ev t y=some (.int k n):=by rfl)
 (hr:(match op with| .add=>some (k.wrap (m+n))| .sub=>some (k.wrap (m-n))| .mul=>some (k.wrap (m*n))|_=>none)=some r:=by first|exact congrArg some (wi (by omega) (by omega) (by omega))|exact congrArg some (pz _ rfl (by omega))):
 aW P bl ops (⟨some d,.binOp op T x y U,ty,pos,af,g⟩::rest) ⟨nt,t,L⟩ K:=Vx hd hg hx hy hr h
def Ix{T e:Nat}{k:IntKind}{i:Int}{b:aG}{off len cap:Nat}{inf:TI}(kk off':Nat)(h:aW P bl ops rest ⟨nt,(d,b.at off')::t,L⟩ K)(hT:P.underlying T=some (.slice e):=by exact uA _)(hinf:eP P e inf=true:=by exact vV _)(hd:Nat.blt d nt=true:=by rfl)(hg:ax ops ⟨some d,.indexAddr T x y,ty,pos,af,g⟩ t=some true:=by rfl)
 (hk:(blank bl L)[kk]? =some b:=by rfl)(hx:ev t x=some (az b.base off len cap):=by rfl)(hy:ev t y=some (.int k i):=by rfl)(h0:0<=i:=by omega)(h1:i<len:=by omega)
 (hb:b.cs≠[]:=by first|exact List.cons_ne_nil _ _|exact lq (by rw[ak];omega)|exact lq (by omega)|exact tabC_ne (by decide)|exact SB_ne (by omega)|exact frmC_ne (by decide)|exact(fun e=>by have h8:=hR.1;have h9:=congrArg List.length e;rw[Nr] at h9;simp only[List.length_nil] at h9;first|omega|(rw[List.length_set] at h9;omega))|exact(fun e=>by have h9:=congrArg List.length e;rw[Nr] at h9;simp only[List.length_nil] at h9;first|omega|(rw[List.length_set] at h9;omega)))
 (ho:off+i.toNat*inf.size=off':=by first|(show 0+Int.toNat _*1=_;omega)|(show 0+Int.toNat _*3=_;omega)|(show 0+Int.toNat _*4=_;omega)|(show 0+Int.toNat _*2=_;omega)|(show 0+Int.toNat _*7=_;omega)):aW P bl ops (⟨some d,.indexAddr T x y,ty,pos,af,g⟩::rest) ⟨nt,t,L⟩ K:=
 ai kk off' hT hinf hd hg hk hx hy h0 h1 hb ho h
def Gm{f:Nat}{args:List Operand}{ts:Array TypeId}{dst:Option Nat}{vs:List Value}{AC:List aG}{X:Type}{res:X->Value}{L1:X->List aG}(n:Nat)(ks is:List Nat)(mk:X->List aG)(hc:Cm P f AC vs X res L1)
 (h:∀x,aW P bl ops rest (({nt:=nt,t:=t,L:=mk x}:St).put dst (res x)) K)
 (hM:IE bl=true:=by rfl)(hd:(match(generalizing:=false) dst with|some d=>Nat.blt d nt|none=>true)=true:=by rfl)
 (hg:ax ops ⟨dst,.call {callee:= .value (.func f),args:=args.toArray,argTypes:=ts},ty,pos,af,g⟩ t=some true:=by rfl)
 (hv:args.map (ev t)=vs.map some:=by rfl)(hn:ks.Nodup:=by decide)(hk:ks.map (fun k=>L[k]?)=(AC.take n).map some:=by rfl)(hA:((AC.take n).all fun b=>b.own&&(Nat.blt b.e dC||b.base.isSome))=true:=by rfl)
 (hp:jr L (is.map some) (AC.drop n):=by repeat (first|exact trivial|refine⟨⟨_,rfl,aG.le_refl _⟩,?_⟩))
 (hC:((AC.drop n).all fun b=> !b.own)=true:=by rfl)(hap:lW ((ks++is).map some) (AC.map (·.own))=true:=by rfl)
 (hlen:∀x,Nat.ble ks.length (L1 x).length=true:=by exact(fun _=>rfl))(hown:∀x,∀b∈L1 x,b.own=true∨∃a∈AC.take n,a.base=b.base∧b.base.isSome=true:=by exact(fun _=>OX rfl))(hL:∀x,setG L ks (L1 x)=mk x:=by exact(fun _=>rfl)):
 aW P bl ops (⟨dst,.call {callee:= .value (.func f),args:=args.toArray,argTypes:=ts},ty,pos,af,g⟩::rest) ⟨nt,t,L⟩ K:=
 ZH vs (A:=AC.take n) (C:=AC.drop n) ks is mk hM hd hg hv (by rw[List.take_append_drop];exact hc) hn hk hA hp hC (by rw[List.take_append_drop];exact hap) hlen hown hL h
def Pc{f:Nat}{args:List Operand}{ts:Array TypeId}{vs:List Value}{v:Value}(hc:aP P f vs.toArray v)(h:aW P bl ops rest ⟨nt,(d,v)::t,L⟩ K)(hd:Nat.blt d nt=true:=by rfl)(hg:ax ops ⟨some d,.call {callee:= .value (.func f),args:=args.toArray,argTypes:=ts},ty,pos,af,g⟩ t=some true:=by rfl)
 (hv:args.map (ev t)=vs.map some:=by rfl):
 aW P bl ops (⟨some d,.call {callee:= .value (.func f),args:=args.toArray,argTypes:=ts},ty,pos,af,g⟩::rest) ⟨nt,t,L⟩ K:=dE vs hd hg hv hc h
def So{T:Nat}{i:TI}{gg e n:Nat}{cs:List Value}{v:Value}(k off:Nat)(L':List aG)(cs':List Value)(h:aW P bl ops rest ⟨nt,t,L'⟩ K)(hbl:FM bl=false:=by rfl)(hg:ax ops ⟨none,.store T x y,ty,pos,af,g⟩ t=some true:=by rfl)(hk:L[k]? =some ⟨some gg,e,cs,n,true⟩:=by rfl)(hx:ev t x=some (.pointer (some ⟨gg,off,none⟩)):=by rfl)
 (hy:ev t y=some v:=by rfl)(hi:eP P T i=true:=by exact vV _)(hsz:v.cells.size=i.size:=by rfl)(hfit:Nat.ble (off+i.size) cs.length=true:=by rfl)(h1:(v.cells.toList.all fun u=>u.oneCell')=true:=by rfl)(hcs:cs.take off++v.cells.toList++cs.drop (off+i.size)=cs':=by rfl)(hL:L.set k ⟨some gg,e,cs',n,true⟩=L':=by rfl)
 (hpos:Nat.blt 0 i.size=true:=by rfl):aW P bl ops (⟨none,.store T x y,ty,pos,af,g⟩::rest) ⟨nt,t,L⟩ K:=pO hbl k off L' cs' hg hk hx hy hi hsz hfit h1 hcs hL h hpos
def Bo{T:Nat}{v:Value}(cs:List Value)(n:Nat)(mk:Nat->List aG)(h:∀b,aW P bl ops rest ⟨nt,(d,.pointer (some ⟨b,0,none⟩))::t,mk b⟩ K)(hd:Nat.blt d nt=true:=by rfl)(hg:ax ops ⟨some d,.box T x,ty,pos,af,g⟩ t=some true:=by rfl)(hx:ev t x=some v:=by rfl)(hcs:v.cells.toList=cs:=by rfl)(hn:v.cells.size=n:=by rfl)
 (hL:∀b,L++[⟨some b,T,cs,n,true⟩]=mk b:=by exact(fun _=>rfl))(hT:Nat.blt T dC=true:=by rfl):aW P bl ops (⟨some d,.box T x,ty,pos,af,g⟩::rest) ⟨nt,t,L⟩ K:=qfA cs n mk hd hg hx hcs hn hL h hT
def y8{n:Nat}{listed:Array Bool}{s:St}{K:St->Prop}{o:Oper}(i:Nat)(h:aW P [1000000] ops [o] s (fun s'=>zK P ops K n (listed.setIfInBounds i true) s'))(h1:Region.ready .any ops listed=[i]:=by kernel_rfl)(ho:ops[i]? =some o:=by rfl):zK P ops K (n+1) listed s:=
 fQ [i] h1 rfl ⟨⟨_,ho,h⟩,trivial⟩
def XF{n:Nat}{listed:Array Bool}{s:St}{K:St->Prop}{o o':Oper}(i j:Nat)(h:aW P [1000000] ops [o] s (fun s'=>zK P ops K n (listed.setIfInBounds i true) s'))(h':aW P [1000000] ops [o'] s (fun s'=>zK P ops K n (listed.setIfInBounds j true) s'))
 (h1:Region.ready .any ops listed=[i,j]:=by kernel_rfl)(ho:ops[i]? =some o:=by rfl)(ho':ops[j]? =some o':=by rfl):zK P ops K (n+1) listed s:=
 fQ [i,j] h1 rfl ⟨⟨_,ho,h⟩,⟨_,ho',h'⟩,trivial⟩
def Tn3{n:Nat}{listed:Array Bool}{s:St}{K:St->Prop}{o o' u:Oper}(i j k:Nat)(h:aW P [1000000] ops [o] s (fun s'=>zK P ops K n (listed.setIfInBounds i true) s'))(h':aW P [1000000] ops [o'] s (fun s'=>zK P ops K n (listed.setIfInBounds j true) s'))(hu:aW P [1000000] ops [u] s (fun s'=>zK P ops K n (listed.setIfInBounds k true) s'))
 (h1:Region.ready .any ops listed=[i,j,k]:=by kernel_rfl)(ho:ops[i]? =some o:=by rfl)(ho':ops[j]? =some o':=by rfl)(ho2:ops[k]? =some u:=by rfl):zK P ops K (n+1) listed s:=
 fQ [i,j,k] h1 rfl ⟨⟨_,ho,h⟩,⟨_,ho',h'⟩,⟨_,ho2,hu⟩,trivial⟩
end
section
variable{P:Program}{B:Bs}{Q:Exit->Act->World->Prop}{nt:Nat}{t:List (Nat×Value)}{L:List aG}{ι:Type}{c:Code}
abbrev SL:=List (Nat×Value)×List aG×Nat
def rD{L L':List aG}(ks:List (Option Nat))(hp:jr L ks L':=by repeat (first|exact trivial|refine⟨⟨_,rfl,aG.le_refl _⟩,?_⟩))(hl:ks.length=L'.length:=by rfl)(ha:lW ks (L'.map (·.own))=true:=by rfl):eG L L':=au ks hp hl ha
def bf.pk{B:Bs}{w:World}{L L':List aG}(h:bf B L w)(ks:List (Option Nat))(hp:jr L ks L':=by repeat (first|exact trivial|refine⟨⟨_,rfl,aG.le_refl _⟩,?_⟩))(hl:ks.length=L'.length:=by rfl)(ha:lW ks (L'.map (·.own))=true:=by rfl):bf B L' w:=h.picks ks hp hl ha
def eG.auto{L L':List aG}(h:eG L L':=by
 first
  |exact au [some 0] ⟨⟨_,rfl,aG.le_refl _⟩,trivial⟩ rfl rfl
  |exact au [some 0,some 1] ⟨⟨_,rfl,aG.le_refl _⟩,⟨_,rfl,aG.le_refl _⟩,trivial⟩ rfl rfl
  |exact au [some 0,some 1,some 2] ⟨⟨_,rfl,aG.le_refl _⟩,⟨_,rfl,aG.le_refl _⟩,⟨_,rfl,aG.le_refl _⟩,trivial⟩ rfl rfl
  |exact au [some 0,some 1,some 2,some 3] ⟨⟨_,rfl,aG.le_refl _⟩,⟨_,rfl,aG.le_refl _⟩,⟨_,rfl,aG.le_refl _⟩,⟨_,rfl,aG.le_refl _⟩,trivial⟩ rfl rfl
  |exact au [some 0,some 1,some 2,some 3,some 4] ⟨⟨_,rfl,aG.le_refl _⟩,⟨_,rfl,aG.le_refl _⟩,⟨_,rfl,aG.le_refl _⟩,⟨_,rfl,aG.le_refl _⟩,⟨_,rfl,aG.le_refl _⟩,trivial⟩ rfl rfl
  |exact au [some 0,some 1,some 2,some 3,some 4,some 5] ⟨⟨_,rfl,aG.le_refl _⟩,⟨_,rfl,aG.le_refl _⟩,⟨_,rfl,aG.le_refl _⟩,⟨_,rfl,aG.le_refl _⟩,⟨_,rfl,aG.le_refl _⟩,⟨_,rfl,aG.le_refl _⟩,trivial⟩ rfl rfl
  |exact au [some 0,some 1,some 2,some 3,some 4,some 5,some 6] ⟨⟨_,rfl,aG.le_refl _⟩,⟨_,rfl,aG.le_refl _⟩,⟨_,rfl,aG.le_refl _⟩,⟨_,rfl,aG.le_refl _⟩,⟨_,rfl,aG.le_refl _⟩,⟨_,rfl,aG.le_refl _⟩,⟨_,rfl,aG.le_refl _⟩,trivial⟩ rfl rfl
  |exact au [some 0,some 1,some 2,some 3,some 4,some 5,some 6,some 7] ⟨⟨_,rfl,aG.le_refl _⟩,⟨_,rfl,aG.le_refl _⟩,⟨_,rfl,aG.le_refl _⟩,⟨_,rfl,aG.le_refl _⟩,⟨_,rfl,aG.le_refl _⟩,⟨_,rfl,aG.le_refl _⟩,⟨_,rfl,aG.le_refl _⟩,⟨_,rfl,aG.le_refl _⟩,trivial⟩ rfl rfl
  |exact au [some 0,some 1,some 2,some 3,some 4,some 5,some 6,some 7,some 8] ⟨⟨_,rfl,aG.le_refl _⟩,⟨_,rfl,aG.le_refl _⟩,⟨_,rfl,aG.le_refl _⟩,⟨_,rfl,aG.le_refl _⟩,⟨_,rfl,aG.le_refl _⟩,⟨_,rfl,aG.le_refl _⟩,⟨_,rfl,aG.le_refl _⟩,⟨_,rfl,aG.le_refl _⟩,⟨_,rfl,aG.le_refl _⟩,trivial⟩ rfl rfl):eG L L':=h
def El(S:ι->SL)(i₀:ι)(round:∀i,At B ⟨nt,(S i).1,(S i).2.1⟩ (c.wp P (Exit.then (Nxt B nt (fun i=>(S i).1) (fun i=>(S i).2.1) (fun i=>(S i).2.2) i) Q)))
 (ht:jX t (S i₀).1:=by repeat (first|exact trivial|refine⟨rfl,?_⟩))(hL:eG L (S i₀).2.1:=by exact eG.refl _):At B ⟨nt,t,L⟩ ((Code.loop c).wp P Q):=qgs _ _ _ i₀ ht hL round
def Nl{T:ι->List (Nat×Value)}{LL:ι->List aG}{μ:ι->Nat}{i:ι}(j:ι)(hμ:μ j<μ i:=by first|(simp only[];omega)|(dsimp only;omega))
 (ht:jX t (T j):=by repeat (first|exact trivial|refine⟨rfl,?_⟩))(hL:eG L (LL j):=by exact eG.refl _):At B ⟨nt,t,L⟩ (Nxt B nt T LL μ i):=qiG j hμ ht hL
end
section
variable{P:Program}{f:Nat}{fn:Func}{c:Code}{B:Bs}{w:World}{R:Ending->World->Prop}{L:List aG}
def cB0(nt:Nat)(hf:P.funcs[f]? =some fn)(hL:bf B L w)(h:At B ⟨nt,[],L⟩ (c.wp P (bodyPost P fn R)))(hb:fn.body=some c:=by rfl)(hnt:fn.ntmps=nt:=by rfl)(hn:Nat.ble 0 fn.ntmps=true:=by rfl)(hD:B.D=[]:=by first|rfl|assumption):Calls P f #[] w R:=
 um (args:=[]) hf hb (Nat.le_of_ble_eq_true hn) hL (by subst hnt;exact h) hD
def cB1{v0:Value}(nt:Nat)(hf:P.funcs[f]? =some fn)(hL:bf B L w)(h:At B ⟨nt,[(0,v0)],L⟩ (c.wp P (bodyPost P fn R)))(hb:fn.body=some c:=by rfl)(hnt:fn.ntmps=nt:=by rfl)(hn:Nat.ble 1 fn.ntmps=true:=by rfl)(hD:B.D=[]:=by first|rfl|assumption):Calls P f #[v0] w R:=
 um (args:=[v0]) hf hb (Nat.le_of_ble_eq_true hn) hL (by subst hnt;exact h) hD
def YZ{v0 v1:Value}(nt:Nat)(hf:P.funcs[f]? =some fn)(hL:bf B L w)(h:At B ⟨nt,[(0,v0),(1,v1)],L⟩ (c.wp P (bodyPost P fn R)))(hb:fn.body=some c:=by rfl)(hnt:fn.ntmps=nt:=by rfl)(hn:Nat.ble 2 fn.ntmps=true:=by rfl)(hD:B.D=[]:=by first|rfl|assumption):Calls P f #[v0,v1] w R:=
 um (args:=[v0,v1]) hf hb (Nat.le_of_ble_eq_true hn) hL (by subst hnt;exact h) hD
def ZI{v0 v1 v2:Value}(nt:Nat)(hf:P.funcs[f]? =some fn)(hL:bf B L w)(h:At B ⟨nt,[(0,v0),(1,v1),(2,v2)],L⟩ (c.wp P (bodyPost P fn R)))(hb:fn.body=some c:=by rfl)(hnt:fn.ntmps=nt:=by rfl)(hn:Nat.ble 3 fn.ntmps=true:=by rfl)(hD:B.D=[]:=by first|rfl|assumption):Calls P f #[v0,v1,v2] w R:=
 um (args:=[v0,v1,v2]) hf hb (Nat.le_of_ble_eq_true hn) hL (by subst hnt;exact h) hD
def cB4{v0 v1 v2 v3:Value}(nt:Nat)(hf:P.funcs[f]? =some fn)(hL:bf B L w)(h:At B ⟨nt,[(0,v0),(1,v1),(2,v2),(3,v3)],L⟩ (c.wp P (bodyPost P fn R)))(hb:fn.body=some c:=by rfl)(hnt:fn.ntmps=nt:=by rfl)(hn:Nat.ble 4 fn.ntmps=true:=by rfl)(hD:B.D=[]:=by first|rfl|assumption):Calls P f #[v0,v1,v2,v3] w R:=
 um (args:=[v0,v1,v2,v3]) hf hb (Nat.le_of_ble_eq_true hn) hL (by subst hnt;exact h) hD
def cB5{v0 v1 v2 v3 v4:Value}(nt:Nat)(hf:P.funcs[f]? =some fn)(hL:bf B L w)(h:At B ⟨nt,[(0,v0),(1,v1),(2,v2),(3,v3),(4,v4)],L⟩ (c.wp P (bodyPost P fn R)))(hb:fn.body=some c:=by rfl)(hnt:fn.ntmps=nt:=by rfl)(hn:Nat.ble 5 fn.ntmps=true:=by rfl)(hD:B.D=[]:=by first|rfl|assumption):Calls P f #[v0,v1,v2,v3,v4] w R:=
 um (args:=[v0,v1,v2,v3,v4]) hf hb (Nat.le_of_ble_eq_true hn) hL (by subst hnt;exact h) hD
end
end Go.Via
namespace Go.Via
variable[Mo]
open Go Go.RowKit
section
variable{P:Program}{bl:List Nat}{ops:Array Oper}{nt:Nat}{t:List (Nat×Value)}{L:List aG}{B:Bs}{rest:List Oper}{K:St->Prop}{ty:TypeId}{pos:String}{af:Array Edge}{g:Option (Nat×Bool)}{d:Nat}
def Cd{s:St}{Q:Exit->Act->World->Prop}{c:Operand}{x y:Code}{b:Bool}(h1:b=true->At B s (x.wp P Q))(h2:b=false->At B s (y.wp P Q))(hc:ev s.t c=some (.bool b):=by rfl):At B s ((Code.cond c x y).wp P Q):=yC hc h1 h2
def Rs{X:Act->World->Prop}{l:List Oper}{b:Bool}(d:Nat)(hT:b=true->aW P bl ops l ⟨nt,(d,.bool true)::t,L⟩ (fun s'=>At B s' X))(hF:b=false->aW P bl ops l ⟨nt,(d,.bool false)::t,L⟩ (fun s'=>At B s' X))
 (hx:look t d=some (.bool b):=by rfl):aW P bl ops l ⟨nt,t,L⟩ (fun s'=>At B s' X):=Ei d hx hT hF
def Ld{T:Nat}{x:Operand}{i:TI}{b:aG}{v:Value}(k off:Nat)(vs:List Value)(hi:eP P T i=true)(h:aW P bl ops rest ⟨nt,(d,v)::t,L⟩ K)
 (hd:Nat.blt d nt=true:=by rfl)(hg:ax ops ⟨some d,.load T x,ty,pos,af,g⟩ t=some true:=by rfl)(hk:(blank bl L)[k]? =some b:=by rfl)(hx:ev t x=some (b.at off):=by rfl)
 (hvs:(b.cs.drop off).take i.size=vs:=by rfl)(hlen:vs.length=i.size:=by rfl)(hpos:Nat.blt 0 i.size=true:=by rfl)(hv:(bif i.agg then some (.agg vs.toArray) else vs[0]?)=some v:=by rfl):
 aW P bl ops (⟨some d,.load T x,ty,pos,af,g⟩::rest) ⟨nt,t,L⟩ K:=aO k off vs hd hg hk hx hi hvs hlen hpos hv h
def Kr{X:Act->World->Prop}{l:List Oper}{v:Value}(d:Nat)(v':Value)(h:aW P bl ops l ⟨nt,(d,v')::t,L⟩ (fun s'=>At B s' X))(hx:look t d=some v:=by rfl)(hv:v=v':=by rfl):aW P bl ops l ⟨nt,t,L⟩ (fun s'=>At B s' X):=aT d v' hx hv h
def E1{fn:Func}{R:Ending->World->Prop}{s:St}{d:Nat}{v:Value}(hR:∀w,bf B s.L w->R (.returned v) w)(hfn:fn.results= #[.tmp d]:=by rfl)(h:look s.t d=some v:=by rfl)(hD:B.D=[]:=by first|rfl|assumption):At B s (bodyPost P fn R .ret):=
 aH hfn (aj h) hR hD
def eB{a b:Bool}(h:a=b):Ending.returned (.bool a)=Ending.returned (.bool b):=by rw[h]
end
end Go.Via
namespace Go.Via
variable[Mo]
open Go Go.RowKit
def ZJ(P:Program)(f:Nat)(L0:List aG)(args:List Value)(X:Type)(res:X->Value)(L1:X->List aG):Prop:=
 ja P f=true∧∀(B:Bs) (w:World),B.D=[]->bf B L0 w->CallsD P f args.toArray .returning w fun e u' w'=>u'= .returning∧∃x,e= .returned (res x)∧bf B (L1 x) w'
theorem ZJ.at{P:Program}{f:Nat}{L A C:List aG}{args:List Value}{X:Type}{res:X->Value}{L1:X->List aG}(hc:ZJ P f (A++C) args X res L1)(ks is:List Nat)(hn:ks.Nodup)(hk:ks.map (fun k=>L[k]?)=A.map some)
 (hA:(A.all fun b=>b.own&&(Nat.blt b.e dC||b.base.isSome))=true)(hp:jr L (is.map some) C)(hC:(C.all fun b=> !b.own)=true)(hap:lW ((ks++is).map some) ((A++C).map (·.own))=true)(hlen:∀x,Nat.ble ks.length (L1 x).length=true)(hown:∀x,∀b∈L1 x,b.own=true∨∃a∈A,a.base=b.base∧b.base.isSome=true)
 {B:Bs}{w:World}(h:bf B L w):CallsD P f args.toArray .returning w fun e u' w'=>u'= .returning∧∃x,e= .returned (res x)∧bf B (setG L ks (L1 x)) w':=by
 obtain⟨B',hD,h2,hb⟩:=Jv ks is hn hk hA hp hC hap h;refine(hc.2 B' w hD h2).mono ?_;rintro e u' w' ⟨hu,x,rfl,hx⟩;exact⟨hu,x,rfl,hb _ _ (hlen x) (hown x) hx⟩
end Go.Via
namespace Go.Via
def val(B:Nat):List Nat->Nat
 |[]=>0
 |d::l=>d+B*val B l
@[simp] theorem qj5 (B:Nat):val B []=0:=rfl
@[simp] theorem sD (B d:Nat) (l:List Nat):val B (d::l)=d+B*val B l:=rfl
def ag(B n:Nat):List Nat:=
 if _h:n=0∨B<2 then[] else n%B::ag B (n/B)
 termination_by n
 decreasing_by exact Nat.div_lt_self (by omega) (by omega)
theorem jA(B:Nat):ag B 0=[]:=by unfold ag;simp
theorem sF{B n:Nat}(hB:2<=B)(hn:n≠0):ag B n=n%B::ag B (n/B):=by
 conv=>lhs;unfold ag
 rw[dif_neg (by omega)]
theorem sG{B:Nat}(hB:2<=B)(n:Nat):val B (ag B n)=n:=by
 induction n using Nat.strongRecOn with
 |_ n ih=>
  by_cases hn:n=0
  ·subst hn;simp[jA]
  ·rw[sF hB hn,sD,ih _ (Nat.div_lt_self (by omega) (by omega))];exact Nat.mod_add_div n B
theorem Bh{B n:Nat}(hB:2<=B):∀d∈ag B n,d<B:=by
 induction n using Nat.strongRecOn with
 |_ n ih=>
  by_cases hn:n=0
  ·subst hn;simp[jA]
  ·rw[sF hB hn];intro d hd;rcases List.mem_cons.1 hd with rfl|hd
   ·exact Nat.mod_lt _ (by omega)
   ·exact ih _ (Nat.div_lt_self (by omega) (by omega)) d hd
def wo(l:List Nat):Prop:=l.getLast? ≠some 0
def MX:wo []:=by simp[wo]
theorem Jw{d:Nat}{l:List Nat}(h:wo (d::l)):wo l:=by
 cases l with
 |nil=>exact MX
 |cons e l=>simpa[wo,List.getLast?_cons_cons] using h
def xO{B:Nat}(hB:2<=B):∀{l:List Nat},wo l->l≠[]->0<val B l
 |[],_,h=>absurd rfl h
 |[d],h,_=>by
  simp[wo] at h;simp;omega
 |d::e::l,h,_=>by
  have:=xO hB (Jw h) (by simp);rw[sD];have:0<B*val B (e::l):=Nat.mul_pos (by omega) this;omega
theorem Jy{B:Nat}(hB:2<=B):∀{l:List Nat},(∀d∈l,d<B)->wo l->ag B (val B l)=l
 |[],_,_=>by simp[jA]
 |d::l,hl,hc=>by
  have hp:=xO hB hc (by simp);rw[sF hB (by omega)];have hd:=hl d (by simp);have e1:val B (d::l)%B=d:=(by rw[sD,Nat.add_mul_mod_self_left];exact Nat.mod_eq_of_lt hd);have e2:val B (d::l)/B=val B l:=by
   rw[sD,Nat.add_mul_div_left _ _ (by omega),Nat.div_eq_of_lt hd];omega
  rw[e1,e2,Jy hB (fun x hx=>hl x (by simp[hx])) (Jw hc)]
def Uh{B:Nat}(hB:2<=B)(n:Nat):wo (ag B n):=by
 induction n using Nat.strongRecOn with
 |_ n ih=>
  by_cases hn:n=0
  ·subst hn;rw[jA];exact MX
  ·rw[sF hB hn];have h2:=ih _ (Nat.div_lt_self (n:=n) (k:=B) (by omega) (by omega));cases hd:ag B (n/B) with
   |nil=>
    have h0:n/B=0:=(by rw[<-sG hB (n/B),hd];rfl);have:n<B:=by
     rcases Nat.div_eq_zero_iff.1 h0 with h|h
     ·omega
     ·exact h
    simp[wo,Nat.mod_eq_of_lt this];exact hn
   |cons e l=>rw[hd] at h2;simpa[wo,List.getLast?_cons_cons] using h2
theorem qR(B:Nat)(a b:List Nat):val B (a++b)=val B a+B^a.length*val B b:=by
 induction a with
 |nil=>simp
 |cons d a ih=>
  rw[List.cons_append,sD,ih,sD,List.length_cons,Nat.pow_succ,Nat.mul_add,
 show B^a.length*B*val B b=B*(B^a.length*val B b) by rw[Nat.mul_comm (B^a.length) B,Nat.mul_assoc]]
  omega
def FX{B:Nat}(hB:1<=B):∀{l:List Nat},(∀d∈l,d<B)->val B l<B^l.length
 |[],_=>by simp
 |d::l,hl=>by
  have h1:=FX hB (l:=l) (fun x hx=>hl x (by simp[hx]));have hd:=hl d (by simp);rw[sD,List.length_cons,Nat.pow_succ];have:B*val B l+B<=B^l.length*B:=by
   have:=Nat.mul_le_mul_left B (Nat.succ_le_of_lt h1);rw[Nat.mul_comm (B^l.length) B];rw[Nat.mul_succ] at this;exact this
  omega
def jG{B:Nat}(hB:2<=B){n k:Nat}(h:n<B^k):(ag B n).length<=k:=by
 induction k generalizing n with
 |zero=>simp at h;subst h;simp[jA]
 |succ k ih=>
  by_cases hn:n=0
  ·subst hn;simp[jA]
  ·rw[sF hB hn,List.length_cons];have:=ih (n:=n/B) (by rw[Nat.div_lt_iff_lt_mul (by omega)];rwa [Nat.pow_succ] at h);omega
theorem eQ{B:Nat}(hB:2<=B)(n:Nat):n<B^(ag B n).length:=by
 have:=FX (B:=B) (by omega) (l:=ag B n) (Bh hB)
 rwa [sG hB] at this
def OY{B:Nat}(hB:2<=B){n k:Nat}(h:B^k<=n):k<(ag B n).length:=by
 have h1:=eQ hB n;rcases Nat.lt_or_ge k (ag B n).length with h2|h2
 ·exact h2
 ·have:=Nat.pow_le_pow_right (n:=B) (by omega) h2;omega
theorem lU{B:Nat}(hB:2<=B)(n i:Nat)(hi:i<(ag B n).length):(ag B n)[i]? =some (n/B^i%B):=by
 induction i generalizing n with
 |zero=>
  by_cases hn:n=0
  ·subst hn;simp[jA] at hi
  ·rw[sF hB hn];simp
 |succ i ih=>
  by_cases hn:n=0
  ·subst hn;simp[jA] at hi
  ·rw[sF hB hn] at hi ⊢;rw[List.getElem?_cons_succ,ih _ (by simpa using hi),Nat.div_div_eq_div_mul,Nat.pow_succ,Nat.mul_comm B]
end Go.Via
namespace Go.Via
theorem LU(B:Nat)(l:List Nat)(k:Nat)(hk:k<l.length):val B (l.take (k+1))=val B (l.take k)+B^k*l[k]:=by
 rw[List.take_succ_eq_append_getElem hk,qR];simp[List.length_take,Nat.min_eq_left (Nat.le_of_lt hk)]
theorem QK(B:Nat)(l:List Nat)(d:Nat):val B (l++[d])=val B l+B^l.length*d:=by
 rw[qR];simp
def Dn(B n:Nat):val B (List.replicate n 0)=0:=by
 induction n with
 |zero=>rfl
 |succ n ih=>simp[List.replicate_succ,ih]
theorem QL{p:Nat->Prop}{l:List Nat}(h:∀d∈l,p d)(k:Nat):∀d∈l.take k,p d:=
 fun d hd=>h d (List.mem_of_mem_take hd)
theorem QM{B:Nat}(hB:2<=B){l:List Nat}(hl:∀d∈l,d<B){n:Nat}(hn:n<=l.length)(hv:val B (l.take n)=val B l)
 (hz:n=0∨∃h:n-1<l.length,l[n-1]≠0):l.take n=ag B (val B l):=by
 rw[<-hv,Jy hB (QL hl n)];unfold wo;rcases hz with rfl|⟨h,hne⟩
 ·simp
 ·rw[List.getLast?_eq_getElem?,List.length_take,Nat.min_eq_left hn]
  by_cases h0:n=0
  ·subst h0;simp
  ·rw[List.getElem?_take,if_pos (by omega),List.getElem?_eq_getElem h]
   simpa using hne
def XG{B:Nat}{l:List Nat}{n:Nat}(hn:n+1<=l.length)(hv:val B (l.take (n+1))=val B l)(hz:l[n]=0):val B (l.take n)=val B l:=by
 rw[LU B l n (by omega),hz] at hv
 simpa using hv
def Dt{B:Nat}(hB:2<=B){a b:Nat}(h:(ag B a).length<(ag B b).length):a<b:=by
 have h1:=eQ hB a;rcases Nat.lt_or_ge a b with h2|h2
 ·exact h2
 ·have:=jG hB (n:=b) (k:=(ag B a).length) (by omega);omega
def qU{B:Nat}(hB:2<=B){a b:Nat}(h:a<=b):(ag B a).length<=(ag B b).length:=
 jG hB (Nat.lt_of_le_of_lt h (eQ hB b))
theorem ww{B:Nat}(hB:2<=B){n:Nat}:ag B n=[]↔n=0:=by
 constructor
 ·intro h;have:=sG hB n;rw[h] at this;exact this.symm
 ·rintro rfl;exact jA B
theorem zU{B:Nat}(hB:2<=B){d:Nat}(h0:d≠0)(h:d<B):ag B d=[d]:=by
 rw[sF hB h0,Nat.mod_eq_of_lt h,Nat.div_eq_of_lt h,jA]
end Go.Via
namespace Go.Via
def Ui{B Y y1 y2 Yr X high x2 Xr P g rest:Nat}(hP:0<P)(hY:Y=(y1*B+y2)*P+Yr)(hX:X=(high*B+x2)*P+Xr)(hXr:Xr<P)
 (hg:g*y1+rest=high)(hyp:0<Y)(ht:g*y2>rest*B+x2):X/Y<g:=by
 rw[Nat.div_lt_iff_lt_mul hyp];have h1:g*(y1*B+y2)=g*y1*B+g*y2:=by grind
 have h2:(high*B+x2)+1<=g*(y1*B+y2):=by
  rw[h1,<-hg];have:(g*y1+rest)*B=g*y1*B+rest*B:=by grind
  omega
 have h3:=Nat.mul_le_mul_right P h2;have h4:g*Y=g*(y1*B+y2)*P+g*Yr:=(by rw[hY];grind);have h5:(high*B+x2+1)*P=(high*B+x2)*P+P:=(by grind);omega
def QN{B Y y1 y2 Yr X high x2 Xr P:Nat}(_hP:0<P)(hY:Y=(y1*B+y2)*P+Yr)(hX:X=(high*B+x2)*P+Xr)(hXr:Xr<P)(hx2:x2<B)
 (hy1:0<y1)(hyp:0<Y):X/Y<=high/y1:=by
 have h0:X/Y<high/y1+1:=by
  rw[Nat.div_lt_iff_lt_mul hyp];have h1:high+1<=(high/y1+1)*y1:=by
   have:=Nat.div_add_mod high y1;have:=Nat.mod_lt high hy1;have:(high/y1+1)*y1=y1*(high/y1)+y1:=(by grind);omega
  have h2:=Nat.mul_le_mul_right (B*P) h1;have h3:(high/y1+1)*Y=(high/y1+1)*y1*(B*P)+(high/y1+1)*(y2*P+Yr):=(by rw[hY];grind);have h4:(high+1)*(B*P)=high*B*P+B*P:=(by grind);have h5:(high*B+x2)*P=high*B*P+x2*P:=(by grind);have h6:(x2+1)*P<=B*P:=Nat.mul_le_mul_right P hx2;have h7:(x2+1)*P=x2*P+P:=(by grind);omega
 omega
def MZ{B Y y1 y2 Yr X high x2 Xr P g rest:Nat}(hY:Y=(y1*B+y2)*P+Yr)(hX:X=(high*B+x2)*P+Xr)
 (hYr:Yr<P)(hy1:0<y1)(hy2:y2<B)(hg:g*y1+rest=high)(hyp:0<Y)(hgB:g<=B)(ht:g*y2<=rest*B+x2∨B<=rest):g<=X/Y+1:=by
 have h1:g*(y1*B+y2)<=high*B+x2:=by
  have e1:g*(y1*B+y2)=g*y1*B+g*y2:=(by grind);have e2:high*B=g*y1*B+rest*B:=(by rw[<-hg];grind);rcases ht with h|h
  ·omega
  ·have a1:g*y2<=B*y2:=Nat.mul_le_mul_right _ hgB;have a2:B*y2<=B*B:=Nat.mul_le_mul_left _ (by omega);have a3:B*B<=rest*B:=Nat.mul_le_mul_right _ h;omega
 have h2:=Nat.mul_le_mul_right P h1;have h3:g*Y=g*(y1*B+y2)*P+g*Yr:=(by rw[hY];grind);have h4:g*Yr<=g*P:=Nat.mul_le_mul_left _ (by omega);have h5:g*P<=B*P:=Nat.mul_le_mul_right _ hgB;have h6:B*P<=Y:=by
  have b1:1*(B*P)<=y1*(B*P):=Nat.mul_le_mul_right _ hy1;have b2:Y=y1*(B*P)+(y2*P+Yr):=(by rw[hY];grind);omega
 have h7:g*Y<=X+Y:=(by omega);rcases Nat.lt_or_ge (X/Y+1) g with h|h
 ·exfalso
  have c1:(X/Y+2)*Y<=g*Y:=Nat.mul_le_mul_right _ h;have c2:(X/Y+2)*Y=Y*(X/Y)+Y+Y:=(by grind);have c3:=Nat.div_add_mod X Y;have c4:=Nat.mod_lt X hyp;omega
 ·exact h
def qc7{B Y y1 y2 Yr X high x2 Xr P:Nat}(hY:Y=(y1*B+y2)*P+Yr)(hX:X=(high*B+x2)*P+Xr)(hYr:Yr<P)
 (hy2:y2<B)(hXY:X<B*Y):high<(y1+1)*B:=by
 rcases Nat.lt_or_ge high ((y1+1)*B) with h|h
 ·exact h
 ·exfalso
  have h1:=Nat.mul_le_mul_right (B*P) h;have h2:X=high*(B*P)+(x2*P+Xr):=(by rw[hX];grind);have h3:(y1+1)*B*(B*P)=B*(y1*B*P+B*P):=(by grind);have h4:Y<=y1*B*P+B*P:=by
   have:(y2+1)*P<=B*P:=Nat.mul_le_mul_right _ hy2;have e1:(y2+1)*P=y2*P+P:=(by grind);have e2:(y1*B+y2)*P=y1*B*P+y2*P:=(by grind);omega
  have h5:=Nat.mul_le_mul_left B h4;omega
end Go.Via
namespace Go.Via
def mZ(l:List UInt8):Nat:=val 256 (l.reverse.map UInt8.toNat)
def qgv(s:ByteArray):Nat:=mZ s.data.toList
def zq(n:Nat):List UInt8:=(ag 256 n).reverse.map UInt8.ofNat
def bQ(n:Nat):ByteArray:=⟨(zq n).toArray⟩
def nb(n:Nat):Nat:=(ag 256 n).length
theorem Eo(n:Nat):(bQ n).data.toList=zq n:=rfl
theorem QO(n:Nat):(zq n).length=nb n:=by simp[zq,nb]
theorem lM(n:Nat):(bQ n).size=nb n:=by
 show(zq n).toArray.size=_;simp[QO]
theorem Jz(l:List UInt8):∀d∈l.reverse.map UInt8.toNat,d<256:=by
 intro d hd;obtain⟨u,_,rfl⟩:=List.mem_map.1 hd;exact u.toNat_lt
theorem H6(l:List UInt8):(l.map UInt8.toNat).map UInt8.ofNat=l:=by
 rw[List.map_map]
 conv=>rhs;rw[<-List.map_id l]
 exact List.map_congr_left (fun u _=>by simp)
theorem oP{l:List Nat}(h:∀d∈l,d<256):(l.map UInt8.ofNat).map UInt8.toNat=l:=by
 rw[List.map_map]
 conv=>rhs;rw[<-List.map_id l]
 exact List.map_congr_left (fun u hu=>by have:=h u hu;simp;omega)
def XH(n:Nat):mZ (zq n)=n:=by
 unfold mZ zq;rw[<-List.map_reverse,List.reverse_reverse,oP (Bh (by omega)),sG (by omega)]
theorem QP(n:Nat):qgv (bQ n)=n:=XH n
theorem OZ{a b:Nat}:bQ a=bQ b↔a=b:=by
 constructor
 ·intro h;have:=congrArg qgv h;rwa [QP,QP] at this
 ·rintro rfl;rfl
def qc8(s:ByteArray):Prop:=s.data.toList.head? ≠some 0
theorem FY{l:List UInt8}(h:l.head? ≠some 0):zq (mZ l)=l:=by
 unfold zq mZ;rw[Jy (by omega) (Jz l)]
 ·rw[<-List.map_reverse,List.reverse_reverse,H6]
 ·unfold wo;rw[List.getLast?_map,List.getLast?_reverse];cases hh:l.head? with
  |none=>simp
  |some u=>
   simp only[Option.map_some,ne_eq,Option.some.injEq];intro hu
   apply h
   rw[hh]
   congr 1
   exact UInt8.toNat_inj.1 (by simpa using hu)
def ZK{s:ByteArray}(h:qc8 s):bQ (qgv s)=s:=by
 cases s with
 |mk d=>
  show ByteArray.mk (zq (mZ d.toList)).toArray=_;rw[FY h]
def ZL(n:Nat):qc8 (bQ n):=by
 unfold qc8;rw[Eo];unfold zq;rw[List.head?_map,List.head?_reverse];have h:=Uh (B:=256) (by omega) n;unfold wo at h;cases hl:(ag 256 n).getLast? with
 |none=>simp
 |some d=>
  have hd:d<256:=Bh (by omega) d (List.mem_of_getLast? hl);simp only[Option.map_some,ne_eq,Option.some.injEq];intro hu;have:=congrArg UInt8.toNat hu;simp at this;rw[Nat.mod_eq_of_lt hd] at this;rw[hl,this] at h;exact h rfl
theorem kS:nb 0=0:=by simp[nb,jA]
def Du{n:Nat}:nb n=0↔n=0:=by
 unfold nb;rw[List.length_eq_zero_iff,ww (by omega)]
def nY{n k:Nat}(h:n<256^k):nb n<=k:=jG (by omega) h
theorem kK(n:Nat):n<256^nb n:=eQ (by omega) n
def pF{n k:Nat}(h:nb n<=k):n<256^k:=Nat.lt_of_lt_of_le (kK n) (Nat.pow_le_pow_right (by omega) h)
def ik{a b:Nat}(h:a<=b):nb a<=nb b:=qU (by omega) h
def zV(a b:Nat):nb (a+b)<=max (nb a) (nb b)+1:=by
 apply nY
 have h1:=pF (n:=a) (k:=max (nb a) (nb b)) (by omega);have h2:=pF (n:=b) (k:=max (nb a) (nb b)) (by omega);rw[Nat.pow_succ];omega
def oQ(a b:Nat):nb (a*b)<=nb a+nb b:=by
 apply nY
 rw[Nat.pow_add];exact Nat.mul_lt_mul'' (kK a) (kK b)
def wW(a b:Nat):nb (a/b)<=nb a:=ik (Nat.div_le_self a b)
def QQ(a b:Nat)(h:a≠0):nb (Nat.gcd a b)<=nb a:=ik (Nat.gcd_le_left b (by omega))
theorem je:bQ 0=⟨#[]⟩:=by show ByteArray.mk (zq 0).toArray=_;simp[zq,jA]
theorem qc9:bQ 1=⟨#[1]⟩:=by
 show ByteArray.mk (zq 1).toArray=_;rw[zq,zU (by omega) (by omega) (by omega)];rfl
def LV(n i:Nat)(hi:i<nb n):(zq n)[i]? =some (UInt8.ofNat (n/256^(nb n-1-i)%256)):=by
 unfold zq;rw[List.getElem?_map,List.getElem?_reverse (by simpa[nb] using hi)];have:=lU (B:=256) (by omega) n (nb n-1-i) (by unfold nb at*;omega);unfold nb at*;rw[this];rfl
end Go.Via
namespace Go.Via
open Go
def I(z:Int):Value:= .agg #[.bool (decide (z<0)),.string (bQ z.natAbs)]
def dm(q:Rat):ByteArray:=if q.den=1 then⟨#[]⟩ else bQ q.den
def Q(q:Rat):Value:= .agg #[.bool (decide (q.num<0)),.string (bQ q.num.natAbs),.bool false,.string (dm q)]
def jH(z:Int):Nat:=nb z.natAbs
def dw(q:Rat):Nat:=max (nb q.num.natAbs) (nb q.den)
def IJ{a b:Int}{m n:Nat}(ha:jH a<=m)(hb:jH b<=n):jH (a+b)<=m+n+1:=by
 unfold jH at*;have h1:=ik (Int.natAbs_add_le a b);have h2:=zV a.natAbs b.natAbs;omega
def mD{a b:Int}{m n:Nat}(ha:jH a<=m)(hb:jH b<=n):jH (a*b)<=m+n:=by
 unfold jH at*;rw[Int.natAbs_mul];have:=oQ a.natAbs b.natAbs;omega
def VF{a:Int}{m:Nat}(ha:jH a<=m):jH (-a)<=m:=by unfold jH at*;rwa [Int.natAbs_neg]
def qda{a b:Int}{m n:Nat}(ha:jH a<=m)(hb:jH b<=n):jH (a-b)<=m+n+1:=by
 rw[Int.sub_eq_add_neg];exact IJ ha (VF hb)
def zW{a k:Nat}(h:nb a<=k):jH (a:Int)<=k:=by unfold jH;simpa using h
def mF{q:Rat}{m:Nat}(h:dw q<=m):jH q.num<=m:=by unfold jH dw at*;omega
def JA{q:Rat}{m:Nat}(h:dw q<=m):nb q.num.natAbs<=m:=by unfold dw at*;omega
def lD{q:Rat}{m:Nat}(h:dw q<=m):jH (q.den:Int)<=m:=by unfold jH dw at*;simp;omega
def JB{q:Rat}{m:Nat}(h:dw q<=m):nb q.den<=m:=by unfold dw at*;omega
def JC(b:Int):b.sign.natAbs<=1:=by
 rcases Int.lt_trichotomy b 0 with h|h|h
 ·rw[Int.sign_eq_neg_one_of_neg h];simp
 ·subst h;simp
 ·rw[Int.sign_eq_one_of_pos h];simp
def yG{n d:Int}{a b:Nat}(hn:jH n<=a)(hd:jH d<=b)(hb:1<=b):dw (Rat.divInt n d)<=max a b:=by
 unfold dw jH at*;rw[Rat.num_divInt,Rat.den_divInt];have h1:nb (d.sign*n/↑(d.gcd n)).natAbs<=nb n.natAbs:=by
  apply ik
  refine Nat.le_trans (Int.natAbs_ediv_le_natAbs _ _) ?_;rw[Int.natAbs_mul];have:=JC d
  calc d.sign.natAbs*n.natAbs<=1*n.natAbs:=Nat.mul_le_mul_right _ this
   _=n.natAbs:=Nat.one_mul _
 have h2:nb (if d=0 then 1 else d.natAbs/d.gcd n)<=max 1 (nb d.natAbs):=by
  split
  ·exact Nat.le_trans (nY (k:=1) (by omega)) (by omega)
  ·exact Nat.le_trans (wW _ _) (by omega)
 omega
def IK(q:Rat):1<=dw q:=by
 unfold dw;have h:nb q.den≠0:=fun h=>q.den_nz (Du.1 h)
 omega
def VG{a b:Rat}{m n:Nat}(ha:dw a<=m)(hb:dw b<=n):dw (a+b)<=m+n+1:=by
 have e:a+b=Rat.divInt (a.num*b.den+b.num*a.den) (a.den*b.den):=by
  conv=>lhs;rw[<-Rat.num_divInt_den a,<-Rat.num_divInt_den b]
  rw[Rat.divInt_add_divInt _ _ (by have:=a.den_nz;omega) (by have:=b.den_nz;omega)]
 have hm:=IK a;rw[e];have h1:jH (a.num*b.den+b.num*a.den)<=m+n+1:=by
  unfold jH;have h2:=ik (Int.natAbs_add_le (a.num*b.den) (b.num*a.den));have h3:=zV (a.num*b.den).natAbs (b.num*a.den).natAbs;have h4:=mD (mF ha) (lD hb);have h5:=mD (mF hb) (lD ha);unfold jH at h4 h5;omega
 have h2:jH ((a.den:Int)*b.den)<=m+n:=mD (lD ha) (lD hb);have:=yG h1 h2 (by omega);omega
def wB{a b:Rat}{m n:Nat}(ha:dw a<=m)(hb:dw b<=n):dw (a*b)<=m+n:=by
 have e:a*b=Rat.divInt (a.num*b.num) (a.den*b.den):=by
  conv=>lhs;rw[<-Rat.num_divInt_den a,<-Rat.num_divInt_den b]
  rw[Rat.divInt_mul_divInt]
 have hm:=IK a;rw[e];have:=yG (mD (mF ha) (mF hb)) (mD (lD ha) (lD hb)) (by omega);omega
def VH{a:Rat}{m:Nat}(ha:dw a<=m):dw (-a)<=m:=by
 unfold dw at*;simpa using ha
def Bi{a b:Rat}{m n:Nat}(ha:dw a<=m)(hb:dw b<=n):dw (a-b)<=m+n+1:=by
 rw[Rat.sub_eq_add_neg];exact VG ha (VH hb)
def qdb{a:Rat}{m:Nat}(ha:dw a<=m):dw (a⁻¹)<=m:=by
 have hp:=IK a;rw[Rat.inv_def];have:=yG (lD ha) (mF ha) (by omega);omega
def Ep{a b:Rat}{m n:Nat}(ha:dw a<=m)(hb:dw b<=n):dw (a/b)<=m+n:=by
 rw[Rat.div_def];exact wB ha (qdb hb)
def qdc{z:Int}{m:Nat}(h:jH z<=m)(hm:1<=m):dw (z:Rat)<=m:=by
 unfold dw jH at*;simp only[Rat.num_intCast,Rat.den_intCast];have:nb 1<=1:=nY (by omega);omega
def Bj{z:Int}(h1: -255<=z)(h2:z<=255):jH z<=1:=by
 unfold jH;apply nY;omega
theorem yH(a b:ByteArray):(a==b)=decide (a=b):=by
 rw[beq_toListBytes,ByteArray.toList_eq,ByteArray.toList_eq,Bool.eq_iff_iff];cases a with|mk x=>cases b with|mk y=>
 cases x;cases y;simp
theorem IL(a b:Nat):(bQ a==bQ b)=decide (a=b):=by
 rw[yH,Bool.eq_iff_iff];simp[OZ]
theorem FZ:((⟨#[]⟩:ByteArray)==⟨#[]⟩)=true:=by rw[yH];simp
theorem nS(a:Nat):(bQ a==⟨#[]⟩)=decide (a=0):=by
 rw[<-je];exact IL a 0
theorem uo(a:Nat):(bQ a !=⟨#[]⟩)=decide (a≠0):=by
 rw[bne,nS];simp
theorem QR(q:Rat):(dm q==⟨#[]⟩)=decide (q.den=1):=by
 unfold dm
 split
 ·rename_i h;rw[FZ];simp[h]
 ·rename_i h;rw[nS];simp[h,q.den_nz]
theorem ZM(p q:Rat):(dm p==dm q)=decide (p.den=q.den):=by
 unfold dm;have hp:=p.den_nz;have hq:=q.den_nz
 split
 ·rename_i h
  split
  ·rename_i h';rw[FZ];simp[h,h']
  ·rename_i h'
   have:((⟨#[]⟩:ByteArray)==bQ q.den)=false:=by
    rw[<-je,IL];simp;omega
   rw[this];simp[h];omega
 ·rename_i h
  split
  ·rename_i h';rw[nS];simp[h',hp,h]
  ·rw[IL]
theorem qiI(x y:Int):((decide (x<0)==decide (y<0))&&(bQ x.natAbs==bQ y.natAbs))=decide (x=y):=by
 rw[IL,Bool.eq_iff_iff];simp only[Bool.and_eq_true,beq_iff_eq,decide_eq_true_eq,decide_eq_decide];omega
theorem qiJ(p q:Rat):((decide (p.num<0)==decide (q.num<0))&&(bQ p.num.natAbs==bQ q.num.natAbs)&&(dm p==dm q))=decide (p=q):=by
 rw[qiI,ZM,Bool.eq_iff_iff];simp only[Bool.and_eq_true,decide_eq_true_eq];exact⟨fun⟨h1,h2⟩=>Rat.ext h1 h2,fun h=>h▸⟨rfl,rfl⟩⟩
theorem QS{n d:Int}(hd:0<d):Q (Rat.divInt n d)= .agg #[.bool (decide (n/(Int.gcd n d:Int)<0)),.string (bQ (n/(Int.gcd n d:Int)).natAbs),.bool false,.string (if d/(Int.gcd n d:Int)=1 then⟨#[]⟩ else bQ (d/(Int.gcd n d:Int)).natAbs)]:=by
 have h1:(Rat.divInt n d).num=n/(Int.gcd n d:Int):=by
  rw[Rat.num_divInt,Int.sign_eq_one_of_pos hd,Int.one_mul,Int.gcd_comm]
 have hg:0<(Int.gcd n d:Int):=by
  have:Int.gcd n d≠0:=(by rw[Ne,Int.gcd_eq_zero_iff];omega);omega
 have h2:((Rat.divInt n d).den:Int)=d/(Int.gcd n d:Int):=by
  rw[Rat.den_divInt,if_neg (by omega),Int.gcd_comm d n];rw[Int.natCast_ediv,Int.natAbs_of_nonneg (by omega)]
 unfold Q dm;rw[h1,<-h2]
 congr 5
 by_cases h:(Rat.divInt n d).den=1
 ·rw[if_pos h,if_pos (by omega)]
 ·rw[if_neg h,if_neg (by omega)];simp
def qgw(n:Nat):Value.agg #[.bool (bQ n !=⟨#[]⟩),.string (bQ n)]=I (-(n:Int)):=by
 unfold I;rw[uo]
 congr 4
 ·rw[Bool.eq_iff_iff];simp;omega
 ·simp
def ZN(n:Nat):Value.agg #[.bool false,.string (bQ n)]=I (n:Int):=by
 unfold I
 congr 4
def Uj(z:Int):(if(!decide (z<0))=true then-(z.natAbs:Int) else(z.natAbs:Int))= -z:=by
 by_cases h:z<0<;>simp[h]<;>omega
def QT(a b:Int)(h:(decide (a<0)==decide (b<0))=true):(if decide (a<0)=true then-((a.natAbs+b.natAbs:Nat):Int) else((a.natAbs+b.natAbs:Nat):Int))=a+b:=by
 by_cases h1:a<0<;>by_cases h2:b<0<;>simp_all<;>omega
def Na(a b:Int)(h:(decide (a<0)==decide (b<0))=false)(hle:b.natAbs<=a.natAbs):(if decide (a<0)=true then-((a.natAbs-b.natAbs:Nat):Int) else((a.natAbs-b.natAbs:Nat):Int))=a+b:=by
 by_cases h1:a<0<;>by_cases h2:b<0<;>simp_all<;>omega
def Nb(a b:Int)(h:(decide (a<0)==decide (b<0))=false)(hle:a.natAbs<=b.natAbs):(if decide (b<0)=true then-((b.natAbs-a.natAbs:Nat):Int) else((b.natAbs-a.natAbs:Nat):Int))=a+b:=by
 by_cases h1:a<0<;>by_cases h2:b<0<;>simp_all<;>omega
def VI(m n:Nat)(h:decide ((0:Int)<=(if m<n then-1 else if n<m then 1 else 0))=true):n<=m:=by
 by_cases h1:m<n
 ·simp[h1] at h
 ·omega
def VJ(m n:Nat)(h:decide ((0:Int)<=(if m<n then-1 else if n<m then 1 else 0))=false):m<=n:=by
 by_cases h1:m<n
 ·omega
 ·by_cases h2:n<m<;>simp[h1,h2] at h
theorem VK(a b:Int):(if(decide (a<0) !=decide (b<0))=true then-((a.natAbs*b.natAbs:Nat):Int) else((a.natAbs*b.natAbs:Nat):Int))=a*b:=by
 have h:((a.natAbs*b.natAbs:Nat):Int)=(a.natAbs:Int)*(b.natAbs:Int):=Int.natCast_mul _ _;rw[h]
 by_cases h1:a<0<;>by_cases h2:b<0
 ·rw[show(a.natAbs:Int)= -a by omega,show(b.natAbs:Int)= -b by omega];simp[h1,h2,Int.neg_mul_neg]
 ·rw[show(a.natAbs:Int)= -a by omega,show(b.natAbs:Int)=b by omega];simp[h1,h2,Int.neg_mul]
 ·rw[show(a.natAbs:Int)=a by omega,show(b.natAbs:Int)= -b by omega];simp[h1,h2,Int.mul_neg]
 ·rw[show(a.natAbs:Int)=a by omega,show(b.natAbs:Int)=b by omega];simp[h1,h2]
def Nc(z:Int)(h:(bQ z.natAbs==⟨#[]⟩)=true):(0:Int)=z.sign:=by
 rw[nS] at h;simp at h;subst h;rfl
def sign_neg(z:Int)(h:decide (z<0)=true):(-1:Int)=z.sign:=by
 simp at h;rw[Int.sign_eq_neg_one_of_neg h]
def QU(z:Int)(h0:(bQ z.natAbs==⟨#[]⟩)=false)(h:decide (z<0)=false):(1:Int)=z.sign:=by
 rw[nS] at h0;simp at h h0;rw[Int.sign_eq_one_of_pos (by omega)]
def zX(a b:Int):Int:=if a<b then-1 else if b<a then 1 else 0
def ng(a b:Nat):Int:=if a<b then-1 else if b<a then 1 else 0
def oC(a b:Rat):Int:=if a<b then-1 else if b<a then 1 else 0
def qdd{a b:Int}{m n:Nat}(ha:jH a<=m)(hb:jH b<=n):jH (Int.gcd a b:Int)<=m+n:=by
 unfold jH at*;simp only[Int.natAbs_natCast];rw[Int.gcd_eq_natAbs_gcd_natAbs]
 by_cases h:a.natAbs=0
 ·rw[h,Nat.gcd_zero_left];omega
 ·have:=QQ a.natAbs b.natAbs h;omega
def GZ{a b q r:Int}(hb:b≠0)(h:r+b*q=a)(h0:0<=r)(h1:r<b.natAbs):q=a/b∧r=a%b:=by
 rcases Int.lt_or_lt_of_ne hb with hb'|hb'
 ·have:=(Int.ediv_emod_unique' hb').2 ⟨h,h0,by omega⟩;exact⟨this.1.symm,this.2.symm⟩
 ·have:=(Int.ediv_emod_unique hb').2 ⟨h,h0,by omega⟩;exact⟨this.1.symm,this.2.symm⟩
def ZO(a b:Int):(a.natAbs:Int)=(b.natAbs:Int)*((a.natAbs/b.natAbs:Nat):Int)+((a.natAbs%b.natAbs:Nat):Int):=by
 rw[<-Int.natCast_mul,<-Int.natCast_add,Nat.div_add_mod]
def QV{a b:Int}(hb:b≠0)(h:¬a<0∨a.natAbs%b.natAbs=0):
 (if(decide (a<0) !=decide (b<0))=true then-((a.natAbs/b.natAbs:Nat):Int) else((a.natAbs/b.natAbs:Nat):Int))=a/b∧((a.natAbs%b.natAbs:Nat):Int)=a%b:=by
 have hd:=ZO a b;have hlt:a.natAbs%b.natAbs<b.natAbs:=Nat.mod_lt _ (by omega)
 generalize a.natAbs/b.natAbs=q at*
 generalize a.natAbs%b.natAbs=r at*
 refine GZ hb ?_ (by omega) (by omega)
 by_cases h1:a<0<;>by_cases h2:b<0
 ·have ea:(a.natAbs:Int)= -a:=by omega
  have eb:(b.natAbs:Int)= -b:=(by omega);rw[ea,eb] at hd;simp[h1,h2];have:r=0:=(by omega);subst this;simp at hd ⊢;have e: -b*(q:Int)= -(b*q):=Int.neg_mul _ _;rw[e] at hd;omega
 ·have ea:(a.natAbs:Int)= -a:=by omega
  have eb:(b.natAbs:Int)=b:=(by omega);rw[ea,eb] at hd;simp[h1,h2];have:r=0:=(by omega);subst this;simp at hd ⊢;rw[Int.mul_neg];omega
 ·have ea:(a.natAbs:Int)=a:=by omega
  have eb:(b.natAbs:Int)= -b:=(by omega);rw[ea,eb] at hd;simp[h1,h2];rw[Int.neg_mul] at hd;rw[Int.mul_neg];omega
 ·have ea:(a.natAbs:Int)=a:=by omega
  have eb:(b.natAbs:Int)=b:=(by omega);rw[ea,eb] at hd;simp[h1,h2];omega
def ZP{a b:Int}(hb:b≠0)(h:a<0)(hr:a.natAbs%b.natAbs≠0):
 (if(decide (a<0) !=decide (b<0))=true then-((a.natAbs/b.natAbs+1:Nat):Int) else((a.natAbs/b.natAbs+1:Nat):Int))=a/b∧((b.natAbs-a.natAbs%b.natAbs:Nat):Int)=a%b:=by
 have hd:=ZO a b;have hlt:a.natAbs%b.natAbs<b.natAbs:=Nat.mod_lt _ (by omega)
 generalize a.natAbs/b.natAbs=q at*
 generalize a.natAbs%b.natAbs=r at*
 refine GZ hb ?_ (by omega) (by omega);have ea:(a.natAbs:Int)= -a:=by omega
 by_cases h2:b<0
 ·have eb:(b.natAbs:Int)= -b:=by omega
  rw[ea,eb] at hd;simp[h,h2];rw[Int.neg_mul] at hd;rw[Int.mul_add];omega
 ·have eb:(b.natAbs:Int)=b:=by omega
  rw[ea,eb] at hd;simp[h,h2];rw[Int.mul_neg,Int.mul_add];omega
def O0{n d:Int}(hd:0<d)(h1:d/(Int.gcd n d:Int)=1):Value.agg #[.bool (decide (n/(Int.gcd n d:Int)<0)),.string (bQ (n/(Int.gcd n d:Int)).natAbs),aX,aY]=Q (Rat.divInt n d):=by
 rw[QS hd,if_pos h1]
def O1{n d:Int}(hd:0<d)(h1:d/(Int.gcd n d:Int)≠1):Value.agg #[.bool (decide (n/(Int.gcd n d:Int)<0)),.string (bQ (n/(Int.gcd n d:Int)).natAbs),.bool (decide (d/(Int.gcd n d:Int)<0)),.string (bQ (d/(Int.gcd n d:Int)).natAbs)]=Q (Rat.divInt n d):=by
 rw[QS hd,if_neg h1]
 congr 5
 have:0<=d/(Int.gcd n d:Int):=Int.ediv_nonneg (by omega) (by omega);simp;omega
def O3{n d:Int}(hd:d≠0):(Int.gcd n d:Int)≠0:=by
 have:Int.gcd n d≠0:=(by rw[Ne,Int.gcd_eq_zero_iff];omega);omega
def VL{d:Int}(h:decide (d.sign<0)=true):d<0:=by
 simpa using h
def VM{d:Int}(h:decide (d.sign<0)=false)(h0:d≠0):0<d:=by
 simp at h;omega
theorem dW(a b:Int):jH (a+b)<=jH a+jH b+1:=IJ (Nat.le_refl _) (Nat.le_refl _)
theorem dX(a b:Int):jH (a-b)<=jH a+jH b+1:=qda (Nat.le_refl _) (Nat.le_refl _)
theorem dY(a b:Int):jH (a*b)<=jH a+jH b:=mD (Nat.le_refl _) (Nat.le_refl _)
theorem dZ(a:Int):jH (-a)<=jH a:=VF (Nat.le_refl _)
theorem eF(a b:Int):jH (Int.gcd a b:Int)<=jH a+jH b:=qdd (Nat.le_refl _) (Nat.le_refl _)
theorem dO(q:Rat):jH q.num<=dw q:=mF (Nat.le_refl _)
theorem dP(q:Rat):jH (q.den:Int)<=dw q:=lD (Nat.le_refl _)
theorem bT(a b:Rat):dw (a+b)<=dw a+dw b+1:=VG (Nat.le_refl _) (Nat.le_refl _)
theorem bJ(a b:Rat):dw (a-b)<=dw a+dw b+1:=Bi (Nat.le_refl _) (Nat.le_refl _)
theorem aS(a b:Rat):dw (a*b)<=dw a+dw b:=wB (Nat.le_refl _) (Nat.le_refl _)
theorem dR(a b:Rat):dw (a/b)<=dw a+dw b:=Ep (Nat.le_refl _) (Nat.le_refl _)
theorem dI(a:Rat):dw (-a)<=dw a:=VH (Nat.le_refl _)
theorem jI(a:Int):nb a.natAbs<=jH a:=Nat.le_refl _
theorem zY(q:Rat):(q.den:Int)≠0:=by have:=q.den_nz;omega
def den_pos(q:Rat):(0:Int)<q.den:=by have:=q.den_nz;omega
def JD(p q:Rat):(p.den:Int)*q.den≠0:=Int.mul_ne_zero (zY p) (zY q)
def qiK{q:Rat}(h:((false==false)&&(dm q==⟨#[]⟩))=true):I 1=I q.den:=by
 rw[QR] at h;simp at h;rw[h];rfl
def qiL{q:Rat}(h:((false==false)&&(dm q==⟨#[]⟩))=false):Value.agg #[.bool false,.string (dm q)]=I q.den:=by
 rw[QR] at h;simp at h;unfold dm;rw[if_neg h];exact ZN q.den
def lF(p q:Rat):Int:=if p.den=q.den then p.num else p.num*q.den
def lG(p q:Rat):Int:=if p.den=q.den then q.num else q.num*p.den
def lY(p q:Rat):Int:=if p.den=q.den then p.den else p.den*q.den
def qde{p q:Rat}(h:((false==false)&&(dm p==dm q))=true):Value.tuple #[I p.num,I q.num,I p.den]= .tuple #[I (lF p q),I (lG p q),I (lY p q)]:=by
 rw[ZM] at h;simp at h;unfold lF lG lY;rw[if_pos h,if_pos h,if_pos h]
def qdf{p q:Rat}(h:((false==false)&&(dm p==dm q))=false):Value.tuple #[I (p.num*q.den),I (q.num*p.den),I (p.den*q.den)]= .tuple #[I (lF p q),I (lG p q),I (lY p q)]:=by
 rw[ZM] at h;simp at h;unfold lF lG lY;rw[if_neg h,if_neg h,if_neg h]
def Nh(p q:Rat):lY p q≠0:=by
 unfold lY;split
 ·exact zY p
 ·exact JD p q
def Uk(p q:Rat):0<lY p q:=by
 unfold lY;split
 ·exact den_pos p
 ·exact Int.mul_pos (den_pos p) (den_pos q)
def szX{p q:Rat}{m n:Nat}(hp:dw p<=m)(hq:dw q<=n):jH (lF p q)<=m+n:=by
 unfold lF;split
 ·have:=mF hp;omega
 ·exact mD (mF hp) (lD hq)
def szY{p q:Rat}{m n:Nat}(hp:dw p<=m)(hq:dw q<=n):jH (lG p q)<=m+n:=by
 unfold lG;split
 ·have:=mF hq;omega
 ·have:=mD (mF hq) (lD hp);omega
def szD{p q:Rat}{m n:Nat}(hp:dw p<=m)(hq:dw q<=n):jH (lY p q)<=m+n:=by
 unfold lY;split
 ·have:=lD hp;omega
 ·exact mD (lD hp) (lD hq)
def qks{p q:Rat}{m n:Nat}(hp:dw p<=m)(hq:dw q<=n):jH (lF p q+lG p q)<=m+n+1:=by
 have h1:=szX hp hq;have h2:=szY hp hq;unfold jH at*;have h3:=ik (Int.natAbs_add_le (lF p q) (lG p q));have h4:=zV (lF p q).natAbs (lG p q).natAbs;omega
def VN(p q:Rat):p=Rat.divInt (lF p q) (lY p q)∧q=Rat.divInt (lG p q) (lY p q):=by
 unfold lF lG lY
 split
 ·rename_i h
  refine⟨(Rat.num_divInt_den p).symm,?_⟩;rw[h];exact(Rat.num_divInt_den q).symm
 ·refine⟨?_,?_⟩
  ·rw[Rat.divInt_mul_right (zY q)];exact(Rat.num_divInt_den p).symm
  ·rw[Int.mul_comm (p.den:Int),Rat.divInt_mul_right (zY p)];exact(Rat.num_divInt_den q).symm
def XI(p q:Rat):Rat.divInt (lF p q+lG p q) (lY p q)=p+q:=by
 have h:=VN p q;have h0:=Nh p q
 generalize lF p q=x at*
 generalize lG p q=y at*
 generalize lY p q=d at*
 rw[h.1,h.2,Rat.divInt_add_divInt _ _ h0 h0,<-Int.add_mul,Rat.divInt_mul_right h0]
theorem JE(p q:Rat):Rat.divInt (p.num*q.num) (p.den*q.den)=p*q:=by
 conv=>rhs;rw[<-Rat.num_divInt_den p,<-Rat.num_divInt_den q]
 rw[Rat.divInt_mul_divInt]
theorem Ul(p q:Rat):Rat.divInt (p.num*q.den) (p.den*q.num)=p/q:=by
 rw[Rat.div_def,Rat.inv_def]
 conv=>rhs;rw[<-Rat.num_divInt_den p]
 rw[Rat.divInt_mul_divInt]
theorem qdg(p q:Rat):(if q=0 then(6:Int) else 0)=(if(p.den:Int)*q.num=0 then 6 else 0):=by
 by_cases h:q=0
 ·subst h;simp
 ·have h1:q.num≠0:=fun e=>h (Rat.num_eq_zero.1 e)
  rw[if_neg h,if_neg (Int.mul_ne_zero (zY p) h1)]
theorem XJ(p:Rat):oC p p=0:=by unfold oC;simp[Rat.lt_irrefl]
def Nj{x y d:Int}(hd:0<d):Rat.divInt x d<Rat.divInt y d↔x<y:=by
 have e:∀z:Int,Rat.divInt z d=(z:Rat)/(d:Rat):=fun z=>Rat.divInt_eq_div z d
 rw[e,e];have hd':(0:Rat)<(d:Rat):=Rat.intCast_pos.2 hd;rw[Rat.div_lt_iff hd',Rat.div_mul_cancel (by intro h;rw[h] at hd';exact absurd hd' (Rat.lt_irrefl))];exact Rat.intCast_lt_intCast
def XK(p q:Rat):zX (lF p q) (lG p q)=oC p q:=by
 have h:=VN p q;have h0:=Uk p q;unfold zX oC;have h1:(p<q)↔lF p q<lG p q:=by
  generalize lF p q=x at*;generalize lG p q=y at*;generalize lY p q=d at*
  rw[h.1,h.2];exact Nj h0
 have h2:(q<p)↔lG p q<lF p q:=by
  generalize lF p q=x at*;generalize lG p q=y at*;generalize lY p q=d at*
  rw[h.1,h.2];exact Nj h0
 simp only[h1,h2]
theorem yI:Q 0= .agg #[aX,aY,aX,aY]:=by
 show Value.agg #[.bool (decide ((0:Int)<0)),.string (bQ 0),.bool false,.string (dm 0)]=_;rw[je,show dm 0=⟨#[]⟩ from rfl];rfl
end Go.Via
namespace Go.Via
variable[Mo]
open Go
def Um(n i:Nat)(h:i<nb n):(bQ n).data.toList[((i:Int)).toNat]? =some (UInt8.ofNat (n/256^(nb n-1-i)%256)):=by
 rw[Int.toNat_natCast,Eo];exact LV n i h
def O4(n:Nat):(((UInt8.ofNat (n%256)).toNat:Nat):Int)=((n%256:Nat):Int):=by
 simp
def XL(n:Nat):Value.int .u64 0= .int .u64 ((n/256^(nb n-0):Nat):Int):=by
 rw[Nat.sub_zero,Nat.div_eq_of_lt (kK n)];rfl
def VO(n i:Nat)(hi:i<=nb n):n/256^(nb n-i)<256^i:=by
 rw[Nat.div_lt_iff_lt_mul (Nat.pow_pos (by omega)),<-Nat.pow_add,show i+(nb n-i)=nb n by omega];exact kK n
theorem iy{i k:Nat}(h:i<=k):256^i<=256^k:=Nat.pow_le_pow_right (by omega) h
def ZQ(n i:Nat)(hi:i<=nb n)(hlt:i<nb n)(h8:nb n<=8):n/256^(nb n-i)*2^8<18446744073709551616:=by
 have h1:=VO n i hi;have h2:256^i<=256^7:=iy (by omega);omega
def XM(n i:Nat)(hlt:i<nb n):n/256^(nb n-(i+1))=n/256^(nb n-i)*256+n/256^(nb n-1-i)%256:=by
 have e:nb n-i=(nb n-(i+1))+1:=(by omega);have e2:nb n-1-i=nb n-(i+1):=(by omega);rw[e,e2,Nat.pow_succ,<-Nat.div_div_eq_div_mul];omega
def qdh(n i:Nat)(hi:i<=nb n)(hlt:i<nb n)(h8:nb n<=8):
 IntKind.u64.wrap ((BitVec.ofInt IntKind.u64.bits ((n/256^(nb n-i)*2^8:Nat):Int)|||BitVec.ofInt IntKind.u64.bits ((n/256^(nb n-1-i)%256:Nat):Int)).toNat)=((n/256^(nb n-(i+1)):Nat):Int):=by
 have h1:=XM n i hlt;have h2:=VO n (i+1) hlt;have h3:256^(i+1)<=256^8:=iy (by omega);exact Jk (m:=n/256^(nb n-i)) 8 (by omega) (by omega) (by omega) (by rw[Nat.mul_comm]) rfl
def row(n:Nat)(f:Nat->Nat):List Nat:=(List.range n).map f
theorem ak(n:Nat)(f:Nat->Nat):(row n f).length=n:=by simp[row]
theorem bU{n:Nat}{f:Nat->Nat}{i:Nat}(h:i<n):(row n f)[i]? =some (f i):=by simp[row,h]
theorem bG{n:Nat}{f g:Nat->Nat}(h:∀j,j<n->f j=g j):row n f=row n g:=by
 unfold row;exact List.map_congr_left fun j hj=>h j (List.mem_range.1 hj)
theorem bZ{n:Nat}{f g:Nat->Nat}{i v:Nat}(h:∀j,j<n->g j=if j=i then v else f j):(row n f).set i v=row n g:=by
 apply List.ext_getElem?
 intro j
 by_cases hj:j<n
 ·rw[bU hj,h j hj]
  by_cases e:i=j
  ·subst e;rw[List.getElem?_set_self (by rw[ak];exact hj)];simp
  ·rw[List.getElem?_set_ne e,bU hj,if_neg (Ne.symm e)]
 ·rw[List.getElem?_eq_none (by simp[ak];omega),List.getElem?_eq_none (by rw[ak];omega)]
theorem zZ{B:Nat}(hB:2<=B)(n:Nat):ag B n=row (ag B n).length (fun j=>n/B^j%B):=by
 apply List.ext_getElem?
 intro j
 by_cases hj:j<(ag B n).length
 ·rw[bU hj,lU hB n j hj]
 ·rw[List.getElem?_eq_none (by omega),List.getElem?_eq_none (by rw[ak];omega)]
theorem pW(B:Nat)(hB:1<=B)(n:Nat):∀k,val B (row k (fun j=>n/B^j%B))=n%B^k
 |0=>by simp[row,val,Nat.mod_one]
 |k+1=>by
  have e:row (k+1) (fun j=>n/B^j%B)=row k (fun j=>n/B^j%B)++[n/B^k%B]:=(by simp[row,List.range_succ]);rw[e,QK,ak,pW B hB n k,Nat.pow_succ,Nat.mod_mul]
def kU{B n:Nat}{f:Nat->Nat}(h:∀j,f j<B):∀d∈row n f,d<B:=by
 intro d hd;obtain⟨j,_,rfl⟩:=List.mem_map.1 hd;exact h j
theorem lQ(n:Nat):row n (fun _=>0)=List.replicate n 0:=by
 apply List.ext_getElem?
 intro j
 by_cases hj:j<n
 ·rw[bU hj];simp[hj]
 ·rw[List.getElem?_eq_none (by rw[ak];omega),List.getElem?_eq_none (by simp;omega)]
def jP{L L':List aG}(h:L=L'):eG L L':=h▸eG.refl _
def LW(u i j:Nat):Nat:=if j<nb u∧nb u-1-j<i then u/256^(nb u-1-j)%256 else 0
def XN(u:Nat):NV .u8 (row 8 (LW u 0))=[.int .u8 0,.int .u8 0,.int .u8 0,.int .u8 0,.int .u8 0,.int .u8 0,.int .u8 0,.int .u8 0]:=by
 rw[bG (g:=fun _=>0) (fun j _=>by simp[LW]),lQ];rfl
def XO(u i:Nat)(hi:i<nb u):(NV .u8 (row 8 (LW u i))).set (nb u-1-i) (.int .u8 ((u/2^(8*i)%256:Nat):Int))=NV .u8 (row 8 (LW u (i+1))):=by
 rw[dG,bZ (g:=LW u (i+1))];intro j _;unfold LW
 by_cases e:j=nb u-1-i
 ·subst e;rw[if_pos rfl,if_pos (by omega),show nb u-1-(nb u-1-i)=i by omega,Nat.pow_mul]
 ·rw[if_neg e]
  by_cases c:j<nb u∧nb u-1-j<i
  ·rw[if_pos c,if_pos (by omega)]
  ·rw[if_neg c,if_neg (by omega)]
def ZR(u:Nat)(h8:nb u<=8):(NV .u8 (row 8 (LW u (nb u)))).take (nb u)=NV .u8 (ag 256 u).reverse:=by
 rw[Ej]
 congr 1
 apply List.ext_getElem?
 intro j
 by_cases hj:j<nb u
 ·rw[List.getElem?_take,if_pos hj,bU (by omega)];rw[List.getElem?_reverse (by exact hj)];have e:=lU (B:=256) (by omega) u (nb u-1-j) (by unfold nb at*;omega);unfold nb at e hj ⊢;rw[e];unfold LW;rw[if_pos (by unfold nb;omega)];rfl
 ·rw[List.getElem?_eq_none (by simp;omega),List.getElem?_eq_none (by simp;unfold nb at hj;omega)]
def JF(u:Nat):ZA (ag 256 u).reverse=bQ u:=rfl
def qgx{u:Nat}(h:u<18446744073709551616):nb u<=8:=nY (by omega)
def Dw{u:Nat}(h:u≠0):0<nb u:=by have:=Du (n:=u);omega
end Go.Via
namespace Go.Via
open Go
def VP{m n r:Nat}(i:Nat)(hn:n<2^i)(hr:n+2^i*m=r)(hb:r<4294967296){x y:Int}(hx:x=(n:Int))(hy:y=((2^i*m:Nat):Int)):
 IntKind.u32.wrap ((BitVec.ofInt IntKind.u32.bits x|||BitVec.ofInt IntKind.u32.bits y).toNat)=(r:Int):=by
 rw[BitVec.or_comm];exact qgo i hn (by omega) hb hy hx
def ae:Nat:=4294967296
theorem dH:2<=ae:=by decide
theorem Es(j:Nat):ae^j=256^(4*j):=by rw[show ae=256^4 from rfl,<-Nat.pow_mul]
theorem Et(n:Nat):(ag ae n).length=(nb n+3)/4:=by
 have e1:(ag ae n).length<=(nb n+3)/4:=jG dH (by
 rw[Es];exact Nat.lt_of_lt_of_le (kK n) (iy (by omega)))
 have e2:(nb n+3)/4<=(ag ae n).length:=by
  by_cases h0:nb n=0
  ·rw[h0];omega
  ·have hn:nb n<=4*(ag ae n).length:=nY (by rw[<-Es];exact eQ dH n);omega
 omega
def yJ(n i j:Nat):Nat:=n%256^i/256^(4*j)%ae
theorem XP(n j:Nat):yJ n 0 j=0:=by simp[yJ,Nat.mod_one]
theorem ZT(n:Nat):row ((nb n+3)/4) (yJ n (nb n))=ag ae n:=by
 rw[zZ dH n,Et];refine bG fun j _=>?_
 unfold yJ;rw[Nat.mod_eq_of_lt (kK n),Es]
theorem G5(n i:Nat):n%256^(i+1)=n%256^i+256^i*(n/256^i%256):=by rw[Nat.pow_succ,Nat.mod_mul]
def JG(n i:Nat):yJ n i (i/4)<2^(8*(i%4)):=by
 unfold yJ;have h1:n%256^i/256^(4*(i/4))<256^(i%4):=by
  rw[Nat.div_lt_iff_lt_mul (Nat.pow_pos (by omega)),<-Nat.pow_add,show i%4+4*(i/4)=i by omega];exact Nat.mod_lt _ (Nat.pow_pos (by omega))
 have e2:2^(8*(i%4))=256^(i%4):=(by rw[Nat.pow_mul]);rw[e2];exact Nat.lt_of_le_of_lt (Nat.mod_le _ _) h1
def JH(n i:Nat):yJ n i (i/4)+2^(8*(i%4))*(n/256^i%256)<4294967296:=by
 have h1:=JG n i;have h2:n/256^i%256<256:=Nat.mod_lt _ (by omega);have h3:2^(8*(i%4))*(n/256^i%256+1)<=2^(8*(i%4))*256:=Nat.mul_le_mul_left _ h2;have h4:2^(8*(i%4))*256<=4294967296:=by
  have:i%4=0∨i%4=1∨i%4=2∨i%4=3:=(by omega);rcases this with e|e|e|e<;>rw[e]<;>decide
 rw[Nat.mul_add] at h3;omega
theorem XQ(n i j:Nat):yJ n (i+1) j=if j=i/4 then yJ n i j+2^(8*(i%4))*(n/256^i%256) else yJ n i j:=by
 have hb:n/256^i%256<256:=Nat.mod_lt _ (by omega);have hA:n%256^i<256^i:=Nat.mod_lt _ (Nat.pow_pos (by omega))
 split
 ·rename_i e
  subst e;have hs:=JH n i;have hl:=JG n i;unfold yJ at*;rw[G5]
  generalize n/256^i%256=b at*
  have e1:256^i*b=256^(4*(i/4))*(256^(i%4)*b):=by
   rw[<-Nat.mul_assoc,<-Nat.pow_add,show 4*(i/4)+i%4=i by omega]
  rw[e1,Nat.add_mul_div_left _ _ (Nat.pow_pos (by omega))];have e2:2^(8*(i%4))=256^(i%4):=by rw[Nat.pow_mul]
  rw[e2] at hs hl ⊢;have h1:n%256^i/256^(4*(i/4))<256^(i%4):=by
   rw[Nat.div_lt_iff_lt_mul (Nat.pow_pos (by omega)),<-Nat.pow_add,show i%4+4*(i/4)=i by omega];exact hA
  have h2:256^(i%4)<=ae:=by
   have:256^(i%4)<=256^4:=iy (by omega);exact this
  have h3:n%256^i/256^(4*(i/4))%ae=n%256^i/256^(4*(i/4)):=Nat.mod_eq_of_lt (by omega);rw[h3] at hs ⊢;exact Nat.mod_eq_of_lt hs
 ·rename_i e
  unfold yJ;rw[G5]
  generalize n/256^i%256=b at*
  by_cases h:j<i/4
  ·have e1:256^i*b=256^(4*j)*(ae*(256^(i-4*j-4)*b)):=by
    rw[show ae=256^4 from rfl,<-Nat.mul_assoc,<-Nat.mul_assoc,<-Nat.pow_add,<-Nat.pow_add,show 4*j+4+(i-4*j-4)=i by omega]
   rw[e1,Nat.add_mul_div_left _ _ (Nat.pow_pos (by omega)),Nat.add_mul_mod_self_left]
  ·have h1:i+1<=4*j:=by omega
   have h2:256^(i+1)<=256^(4*j):=iy h1;have h3:n%256^i+256^i*b<256^(4*j):=by
    have:256^i*(b+1)<=256^i*256:=Nat.mul_le_mul_left _ hb;rw[Nat.mul_add] at this;rw[Nat.pow_succ] at h2;omega
   rw[Nat.div_eq_of_lt h3,Nat.div_eq_of_lt (by omega)]
def wX(n M p j:Nat):Nat:=if M-1-j<p then n/256^(M-1-j)%256 else 0
theorem Nk(n M j:Nat):wX n M 0 j=0:=by simp[wX]
def Np(n M p v:Nat)(hp:p<M)(hv:v=n/256^p%256):(NV .u8 (row M (wX n M p))).set (M-1-p) (.int .u8 (v:Int))=NV .u8 (row M (wX n M (p+1))):=by
 rw[dG,bZ (g:=wX n M (p+1))];intro j hj;unfold wX
 by_cases e:j=M-1-p
 ·subst e;rw[if_pos rfl,if_pos (by omega),show M-1-(M-1-p)=p by omega,hv]
 ·rw[if_neg e]
  by_cases c:M-1-j<p
  ·rw[if_pos c,if_pos (by omega)]
  ·rw[if_neg c,if_neg (by omega)]
theorem JI(l:List UInt8):mZ (0::l)=mZ l:=by
 unfold mZ;rw[List.reverse_cons,List.map_append,qR];simp[val]
theorem Aa:∀l:List UInt8,mZ (l.dropWhile (· ==0))=mZ l
 |[]=>rfl
 |x::l=>by
  by_cases h:x=0
  ·subst h;rw[List.dropWhile_cons_of_pos (by rfl),JI];exact Aa l
  ·rw[List.dropWhile_cons_of_neg (by simpa using h)]
def Ac:∀l:List UInt8,(l.dropWhile (· ==0)).head? ≠some 0
 |[]=>by simp
 |x::l=>by
  by_cases h:x=0
  ·subst h;rw[List.dropWhile_cons_of_pos (by rfl)];exact Ac l
  ·rw[List.dropWhile_cons_of_neg (by simpa using h)];simpa using h
def lZ(l:List UInt8):ByteArray:=⟨l.toArray⟩
theorem xP(l:List UInt8):(lZ l).size=l.length:=by show l.toArray.size=_;simp
theorem XR(n M:Nat)(h:n<256^M):lZ (((row M (wX n M M)).map UInt8.ofNat).dropWhile (· ==0))=bQ n:=by
 have e1:mZ ((row M (wX n M M)).map UInt8.ofNat)=n:=by
  unfold mZ;have e2:((row M (wX n M M)).map UInt8.ofNat).reverse.map UInt8.toNat=row M (fun j=>n/256^j%256):=by
   rw[<-List.map_reverse,oP]
   ·apply List.ext_getElem?
    intro j
    by_cases hj:j<M
    ·rw[List.getElem?_reverse (by rw[ak];exact hj),ak,bU (by omega),bU hj];unfold wX;rw[if_pos (by omega),show M-1-(M-1-j)=j by omega]
    ·rw[List.getElem?_eq_none (by simp[ak];omega),List.getElem?_eq_none (by rw[ak];omega)]
   ·intro d hd;rw[List.mem_reverse] at hd;exact kU (B:=256) (fun j=>by unfold wX;split<;>omega) d hd
  rw[e2,pW 256 (by omega),Nat.mod_eq_of_lt h]
 have e3:=FY (Ac ((row M (wX n M M)).map UInt8.ofNat));rw[Aa,e1] at e3;unfold lZ bQ;rw[e3]
def qdi(l:List Nat):ZA l=lZ (l.map UInt8.ofNat):=rfl
theorem kV{B n i:Nat}(hB:2<=B)(h:i<(ag B n).length):(ag B n)[i]? =some (n/B^i%B):=lU hB n i h
def Un(n i k:Nat)(hk:k<4):n/ae^i%ae/2^(8*k)%256=n/256^(4*i+k)%256:=by
 have e:ae=256^k*256^(4-k):=(by rw[<-Nat.pow_add,show k+(4-k)=4 by omega];rfl);have e8:2^(8*k)=256^k:=(by rw[Nat.pow_mul]);rw[Es,e,Nat.mod_mul,e8,Nat.add_mul_div_left _ _ (Nat.pow_pos (by omega)),Nat.div_eq_of_lt (Nat.mod_lt _ (Nat.pow_pos (by omega))),Nat.zero_add,Nat.div_div_eq_div_mul,<-Nat.pow_add];have e2:256^(4-k)=256*256^(3-k):=(by rw[show 4-k=(3-k)+1 by omega,Nat.pow_succ,Nat.mul_comm]);rw[e2,Nat.mod_mul,Nat.add_mul_mod_self_left,Nat.mod_mod]
theorem Eu{B:Nat}(hB:2<=B){l:List Nat}(hl:∀d∈l,d<B){m:Nat}(hm:m<=l.length)(hv:val B (l.take m)=val B l)(hz:m=0∨∃h:m-1<l.length,l[m-1]≠0):m=(ag B (val B l)).length:=by
 rw[<-QM hB hl hm hv hz,List.length_take];omega
def JJ{B:Nat}{l:List Nat}{m:Nat}(h0:0<m)(hm:m<=l.length)(hv:val B (l.take m)=val B l)(h:m-1<l.length)(hz:l[m-1]=0):val B (l.take (m-1))=val B l:=by
 obtain⟨k,rfl⟩:∃k,m=k+1:=⟨m-1,by omega⟩;exact XG hm hv (by simpa using hz)
def xQ{B:Nat}(hB:2<=B):∀{l:List Nat},(∀d∈l,d<B)->l.take (ag B (val B l)).length=ag B (val B l):=by
 have key:∀(n:Nat) (l:List Nat),l.length=n->(∀d∈l,d<B)->∃m,m<=l.length∧l.take m=ag B (val B l):=by
  intro n
  induction n with
  |zero=>intro l hl h;have:l=[]:=List.eq_nil_of_length_eq_zero hl;subst this;exact⟨0,by simp,by simp[val,jA]⟩
  |succ n ih=>
   intro l hl h
   by_cases hz:l[n]'(by omega)=0
   ·have e:l=l.take n++[0]:=by
     conv=>lhs;rw[<-List.take_append_drop n l]
     rw[List.drop_eq_getElem_cons (by omega),hz,List.drop_eq_nil_of_le (by omega)]
    obtain⟨m,h1,h2⟩:=ih (l.take n) (by simp;omega) (QL h n);have hv:val B l=val B (l.take n):=by
     conv=>lhs;rw[e]
     rw[QK];omega
    refine⟨m,by simp at h1;omega,?_⟩;rw[hv,<-h2,List.take_take];congr 1;simp at h1;omega
   ·exact⟨n+1,by omega,QM hB h (by omega) (by rw[List.take_of_length_le (by omega)]) (.inr ⟨by omega,by simpa using hz⟩)⟩
 intro l h;obtain⟨m,h1,h2⟩:=key _ l rfl h;have:m=(ag B (val B l)).length:=by rw[<-h2,List.length_take];omega
 rw[<-this];exact h2
end Go.Via
namespace Go.Via
open Go Go.RowKit
inductive QW where
 |q (r:Rat)
 |raw (b1:Bool) (s1:ByteArray) (b2:Bool) (s2:ByteArray)
def QW.cells:QW->List Value
 | .q r=>[.bool (decide (r.num<0)),.string (bQ r.num.natAbs),.bool false,.string (dm r)]
 | .raw b1 s1 b2 s2=>[.bool b1,.string s1,.bool b2,.string s2]
inductive XT where
 |mk (op:Int) (name:List UInt8) (num:QW) (args:List XT)
def XT.op:XT->Int| .mk o _ _ _=>o
def XT.name:XT->List UInt8| .mk _ n _ _=>n
def XT.num:XT->QW| .mk _ _ n _=>n
def XT.args:XT->List XT| .mk _ _ _ l=>l
def Uo(op:Int)(name:List UInt8)(num:QW)(a:Option Addr)(n cap:Nat):List Value:= .int .i64 op:: .string (lZ name)::num.cells++[.slice a n cap]
mutual
inductive JK(T:LK):XT->List Value->Prop
 |mk {op:Int} {name:List UInt8} {num:QW} {args:List XT} {a:Option Addr} {cap:Nat} (h:H7 T args a) (hc:args.length<=cap):
  JK T (.mk op name num args) (Uo op name num a args.length cap)
inductive H7(T:LK):List XT->Option Addr->Prop
 |nil {a:Option Addr}:H7 T [] a
 |cons {x:XT} {l:List XT} {g off:Nat} {cs c:List Value} (hm:(g,cs)∈T) (hc:(cs.drop off).take 7=c) (hx:JK T x c) (hl:H7 T l (some ⟨g,off+7,none⟩)):H7 T (x::l) (some ⟨g,off,none⟩)
end
mutual
def JK.mono{T U:LK}(hs:∀p∈T,p∈U):∀{x:XT} {c:List Value},JK T x c->JK U x c
 |_,_,.mk h hc=> .mk (H7.mono hs h) hc
def H7.mono{T U:LK}(hs:∀p∈T,p∈U):∀{l:List XT} {a:Option Addr},H7 T l a->H7 U l a
 |_,_,.nil=> .nil
 |_,_,.cons hm hc hx hl=> .cons (hs _ hm) hc (JK.mono hs hx) (H7.mono hs hl)
end
def LX{op:Int}{name:List UInt8}{num:QW}{a:Option Addr}{n cap:Nat}:(Uo op name num a n cap).length=7:=by cases num<;>rfl
def LY{op:Int}{name:List UInt8}{num:QW}{a:Option Addr}{n cap:Nat}:(Uo op name num a n cap).all Value.simpleT=true:=by cases num<;>rfl
theorem JK.length{T:LK}{x:XT}{c:List Value}(h:JK T x c):c.length=7:=by cases h;exact LX
theorem JK.simple{T:LK}{x:XT}{c:List Value}(h:JK T x c):c.all Value.simpleT=true:=by cases h;exact LY
theorem H7.get{T:LK}:∀{l:List XT} {a:Option Addr} {i:Nat} {x:XT},H7 T l a->l[i]? =some x->∃g off cs c,a=some ⟨g,off,none⟩∧(g,cs)∈T∧(cs.drop (off+i*7)).take 7=c∧JK T x c
 |[],_,i,x,_,hx=>by simp at hx
 |y::l,_,0,x,.cons hm hc hy hl,hx=>by
  simp at hx;subst hx;exact⟨_,_,_,_,rfl,hm,by rw[Nat.zero_mul,Nat.add_zero];exact hc,hy⟩
 |y::l,_,i+1,x,.cons hm hc hy hl,hx=>by
  rw[List.getElem?_cons_succ] at hx;obtain⟨g,off,cs,c,h1,h2,h3,h4⟩:=H7.get hl hx;simp only[Option.some.injEq,Addr.mk.injEq,and_true] at h1;obtain⟨rfl,rfl⟩:=h1;exact⟨_,_,cs,c,rfl,h2,by rw[<-h3,Nat.succ_mul];congr 2;omega,h4⟩
mutual
def XT.size:XT->Nat
 | .mk _ _ _ l=>1+XT.sizes l
def XT.sizes:List XT->Nat
 |[]=>0
 |x::l=>XT.size x+XT.sizes l
end
abbrev D7:=List UInt8
def qfF(c:UInt8):Bool:=(decide (65<=c.toNat)&&decide (c.toNat<=90))||(decide (97<=c.toNat)&&decide (c.toNat<=122))
def isDig(c:UInt8):Bool:=decide (48<=c.toNat)&&decide (c.toNat<=57)
def wch(c:UInt8):Bool:=qfF c||isDig c||c==95
def zch(c:UInt8):Bool:=decide (32<=c.toNat)&&decide (c.toNat<=126)
def qiM(l:D7):Bool:=l.all zch&&decide (1<=l.length)&&decide (l.length<=40)
def qkt:D7:=[60,61,43,45,124,92,42,38,40,41,91,93,44]
def spL:D7:=[32,9,10]
def qku:List (D7×Nat×Nat):=[([111,114],24,1),([97,110,100],23,2),([110,111,116],25,3),([60],21,4),([61],22,4),([43],18,5),([45],19,5),([124],7,5),([92],9,5),([42],20,6),([38],8,6),([100,117,114,105,110,103],12,7)]
def qkv:List (D7×Nat×Nat):=[
 ([119,104,101,110],10,1),([100,101,102,105,110,101,100],11,1),([100,105,115,116,97,110,99,101,50],13,2),([115,112,101,101,100,50],14,1),([119,105,116,104,105,110],15,3),([105,110,115,105,100,101],16,2),([97,114,101,97,50],17,1),
 ([115,111,109,101,116,105,109,101],26,1),([97,108,119,97,121,115],27,1),([108,97,115,116,105,110,103],28,2),([115,104,105,102,116],29,2),([108,101,97,115,116],30,2)]
def qiN:List D7:=[[118,97,108,117,101],[111,98,106,101,99,116,115],[119,104,101,114,101],[112,97,105,114,115],[112,111,105,110,116],[111,98,106,101,99,116],[122,111,110,101]]
def resL:List D7:=qiN++qku.map (·.1)++qkv.map (·.1)
structure Ps where
 s:D7
 pos:Nat
 k:Nat
 at_:Nat
 tx:D7
 bat:Nat
 be:Nat
 fail:Bool
def Ps.ok(p:Ps):Prop:=p.s.length<=4096∧p.pos<=p.s.length
def Ps.tok(p:Ps)(a k n:Nat):Ps:={p with pos:=a+n,k:=k,at_:=a,tx:=(p.s.drop a).take n}
def dgs(l:D7):Nat:=(l.takeWhile isDig).length
def qgy(l:D7):Nat:=
 match l.drop (dgs l) with
 |47::c::r=>if isDig c then dgs l+1+dgs (c::r) else dgs l
 |_=>dgs l
def quo:D7->Option (D7×Nat)
 |[]=>none
 |[c]=>if c=34 then some ([],0) else none
 |c::d::l=>if c=34 then(if d=34 then(quo l).map fun x=>(34::x.1,x.2+2) else some ([],0)) else(quo (d::l)).map fun x=>(c::x.1,x.2+1)
def Ps.quoted(p:Ps)(a:Nat):Ps:=
 match quo (p.s.drop (a+1)) with
 |some (n,k)=>if qiM n then {p with pos:=a+k+2,k:=3,at_:=a,tx:=n} else {p with k:=5,at_:=a,tx:=[]}
 |none=>{p with k:=5,at_:=a,tx:=[]}
def Ps.skip(p:Ps):Nat:=p.pos+((p.s.drop p.pos).takeWhile spL.contains).length
def Ps.adv(p:Ps):Ps:=
 match p.s.drop p.skip with
 |[]=>{p with pos:=p.skip,k:=0,at_:=p.skip,tx:=[]}
 |c::r=>
  if qfF c then p.tok p.skip 1 ((c::r).takeWhile wch).length
  else if isDig c then p.tok p.skip 2 (qgy (c::r))
  else if c=34 then({p with pos:=p.skip}).quoted p.skip
  else if qkt.contains c then p.tok p.skip 4 1
  else p.tok p.skip 5 0
def Ps.stop(p:Ps)(e:Nat):Ps:=if p.fail then p else {p with bat:=p.at_,be:=e,fail:=true}
def Ps.is(p:Ps)(x:D7):Bool:= !p.fail&&(p.k==1||p.k==4)&&p.tx==x
def Ps.want(p:Ps)(x:D7):Ps:=if p.is x then p.adv else p.stop 15
def Ps.name(p:Ps):Ps:=if p.fail||p.k !=1||resL.contains p.tx then p.stop 15 else if 40<p.tx.length then p.stop 34 else p.adv
def qdj(l:D7):Nat:=l.foldl (fun n c=>n*10+(c.toNat-48)) 0
def qgz(t:D7):Option Rat:=
 let a:=t.takeWhile isDig
 match t.drop a.length with
 |[]=>some (qdj a:Rat)
 |_::b=>if qdj b=0 then none else some (Rat.divInt (qdj a) (qdj b))
def qkw(q:Rat):Bool:=decide (q.den=1)&&decide (1<=q.num)&&decide (q.num<=1073741824)
def XT.numd(op:Nat)(q:Rat):XT:= .mk op [] (.q q) []
def Ps.number(p:Ps)(object:Bool):Rat×Ps:=
 if p.fail||p.k !=2 then(0,p.stop 15) else
 match qgz p.tx with
 |none=>(0,p.stop 6)
 |some q=>if object&& !qkw q then(0,p.stop 27) else(q,p.adv)
def qgA:D7:=[45]
def Ps.signed(p:Ps):XT×Ps:=
 if p.is qgA then(.numd 1 (-(p.adv.number false).1),(p.adv.number false).2) else(.numd 1 (p.number false).1,(p.number false).2)
end Go.Via
namespace Go.Proofs.YtaffcpfhedadhaaGreatDoor
open Go Go.RowKit Go.Via
def mixed:Tryz.prog.follows .mixedOrders=true:=by kernel_rfl
def uq:eP Tryz.prog 3 ⟨false,1,[]⟩=true:=by kernel_rfl
def ti4:eP Tryz.prog 4 ⟨false,1,[]⟩=true:=by kernel_rfl
def Y2:eP Tryz.prog 5 ⟨false,1,[]⟩=true:=by kernel_rfl
def qkx:eP Tryz.prog 32 ⟨false,1,[]⟩=true:=by kernel_rfl
def yK:eP Tryz.prog 34 ⟨true,2,[(0,1),(1,1)]⟩=true:=by kernel_rfl
def BZ:eP Tryz.prog 36 ⟨true,4,[(0,2),(2,2)]⟩=true:=by kernel_rfl
def iK:eP Tryz.prog 38 ⟨true,9,[(0,4),(4,4),(8,1)]⟩=true:=by kernel_rfl
def qgB:eP Tryz.prog 40 ⟨true,10,[(0,1),(1,9)]⟩=true:=by kernel_rfl
def iC:eP Tryz.prog 61 ⟨true,20,[(0,9),(9,9),(18,1),(19,1)]⟩=true:=by kernel_rfl
def jJ:eP Tryz.prog 63 ⟨true,38,[(0,20),(20,9),(29,9)]⟩=true:=by kernel_rfl
def qiP:eP Tryz.prog 74 ⟨false,1,[]⟩=true:=by kernel_rfl
def qgC:eP Tryz.prog 86 ⟨true,4,[(0,1),(1,1),(2,1),(3,1)]⟩=true:=by kernel_rfl
def XU:eP Tryz.prog 91 ⟨true,12,[(0,4),(4,4),(8,4)]⟩=true:=by kernel_rfl
def LZ:eP Tryz.prog 93 ⟨true,32,[(0,20),(20,12)]⟩=true:=by kernel_rfl
def Dx:eP Tryz.prog 98 ⟨true,16,[(0,4),(4,4),(8,4),(12,4)]⟩=true:=by kernel_rfl
def wC:eP Tryz.prog 100 ⟨true,36,[(0,20),(20,16)]⟩=true:=by kernel_rfl
def qfG:eP Tryz.prog 120 ⟨true,3,[(0,1),(1,1),(2,1)]⟩=true:=by kernel_rfl
def qfH:eP Tryz.prog 151 ⟨true,52,[(0,20),(20,16),(36,16)]⟩=true:=by kernel_rfl
def ZU:eP Tryz.prog 181 ⟨true,21,[(0,20),(20,1)]⟩=true:=by kernel_rfl
def jK:eP Tryz.prog 201 ⟨true,36,[(0,20),(20,16)]⟩=true:=by kernel_rfl
def qiQ:eP Tryz.prog 209 ⟨true,10,[(0,9),(9,1)]⟩=true:=by kernel_rfl
def ZV:eP Tryz.prog 253 ⟨true,12,[(0,10),(10,2)]⟩=true:=by kernel_rfl
def VQ:eP Tryz.prog 272 ⟨false,1,[]⟩=true:=by kernel_rfl
def z3:(Tryz.prog.info? 3).bind (·.zero)=some (.int .i64 0):=by kernel_rfl
def z24:(Tryz.prog.info? 24).bind (·.zero)=some (.agg #[.int .u8 0,.int .u8 0,.int .u8 0,.slice none 0 0]):=by kernel_rfl
def xR:(Tryz.prog.info? 34).bind (·.zero)=some (.agg #[aX,aY]):=by kernel_rfl
def qV:(Tryz.prog.info? 36).bind (·.zero)=some (.agg #[aX,aY,aX,aY]):=by kernel_rfl
def O5:(Tryz.prog.info? 38).bind (·.zero)=some (.agg #[aX,aY,aX,aY,aX,aY,aX,aY,.bool false]):=by kernel_rfl
def z40:(Tryz.prog.info? 40).bind (·.zero)=some (.agg #[.slice none 0 0,aX,aY,aX,aY,aX,aY,aX,aY,.bool false]):=by kernel_rfl
def z61:(Tryz.prog.info? 61).bind (·.zero)=some (.agg #[aX,aY,aX,aY,aX,aY,aX,aY,.bool false,aX,aY,aX,aY,aX,aY,aX,aY,.bool false,.bool false,.bool false]):=by kernel_rfl
def z63:(Tryz.prog.info? 63).bind (·.zero)=some (.agg #[aX,aY,aX,aY,aX,aY,aX,aY,.bool false,aX,aY,aX,aY,aX,aY,aX,aY,.bool false,.bool false,.bool false,aX,aY,aX,aY,aX,aY,aX,aY,.bool false,aX,aY,aX,aY,aX,aY,aX,aY,.bool false]):=by kernel_rfl
def z86:(Tryz.prog.info? 86).bind (·.zero)=some (.agg #[.int .u8 0,.int .u8 0,.int .u8 0,.int .u8 0]):=by kernel_rfl
def G6:(Tryz.prog.info? 91).bind (·.zero)=some (.agg #[aX,aY,aX,aY,aX,aY,aX,aY,aX,aY,aX,aY]):=by kernel_rfl
def z93:(Tryz.prog.info? 93).bind (·.zero)=some (.agg #[aX,aY,aX,aY,aX,aY,aX,aY,.bool false,aX,aY,aX,aY,aX,aY,aX,aY,.bool false,.bool false,.bool false,aX,aY,aX,aY,aX,aY,aX,aY,aX,aY,aX,aY]):=by kernel_rfl
def z98:(Tryz.prog.info? 98).bind (·.zero)=some (.agg #[aX,aY,aX,aY,aX,aY,aX,aY,aX,aY,aX,aY,aX,aY,aX,aY]):=by kernel_rfl
def qkz:(Tryz.prog.info? 100).bind (·.zero)=some (.agg #[aX,aY,aX,aY,aX,aY,aX,aY,.bool false,aX,aY,aX,aY,aX,aY,aX,aY,.bool false,.bool false,.bool false,aX,aY,aX,aY,aX,aY,aX,aY,aX,aY,aX,aY,aX,aY,aX,aY]):=by kernel_rfl
def XV:(Tryz.prog.info? 120).bind (·.zero)=some (.agg #[.bool false,.slice none 0 0,.slice none 0 0]):=by kernel_rfl
def qkA:(Tryz.prog.info? 130).bind (·.zero)=some (.agg #[.bool false,.bool false,.bool false]):=by kernel_rfl
def qdl:(Tryz.prog.info? 137).bind (·.zero)=some (.agg #[aX,aY,aX,aY,aX,aY,aX,aY,aX,aY,aX,aY]):=by kernel_rfl
def z148:(Tryz.prog.info? 148).bind (·.zero)=some (.slice none 0 0):=by kernel_rfl
def qkB:(Tryz.prog.info? 151).bind (·.zero)=some (.agg #[aX,aY,aX,aY,aX,aY,aX,aY,.bool false,aX,aY,aX,aY,aX,aY,aX,aY,.bool false,.bool false,.bool false,aX,aY,aX,aY,aX,aY,aX,aY,aX,aY,aX,aY,aX,aY,aX,aY,aX,aY,aX,aY,aX,aY,aX,aY,aX,aY,aX,aY,aX,aY,aX,aY]):=by kernel_rfl
def qkC:(Tryz.prog.info? 174).bind (·.zero)=some (.agg #[aX,aY,aX,aY,aX,aY,aX,aY,aX,aY,aX,aY]):=by kernel_rfl
def qiS:(Tryz.prog.info? 181).bind (·.zero)=some (.agg #[aX,aY,aX,aY,aX,aY,aX,aY,.bool false,aX,aY,aX,aY,aX,aY,aX,aY,.bool false,.bool false,.bool false,.int .i64 0]):=by kernel_rfl
def qiT:(Tryz.prog.info? 201).bind (·.zero)=some (.agg #[aX,aY,aX,aY,aX,aY,aX,aY,.bool false,aX,aY,aX,aY,aX,aY,aX,aY,.bool false,.bool false,.bool false,aX,aY,aX,aY,aX,aY,aX,aY,aX,aY,aX,aY,aX,aY,aX,aY]):=by kernel_rfl
def qgD:(Tryz.prog.info? 209).bind (·.zero)=some (.agg #[aX,aY,aX,aY,aX,aY,aX,aY,.bool false,.bool false]):=by kernel_rfl
def qkD:(Tryz.prog.info? 251).bind (·.zero)=some (.agg #[.int .i64 0,.int .i64 0]):=by kernel_rfl
def ZW:(Tryz.prog.info? 253).bind (·.zero)=some (.agg #[aX,aY,aX,aY,aX,aY,aX,aY,.bool false,.bool false,.int .i64 0,.int .i64 0]):=by kernel_rfl
def qkE:(Tryz.prog.info? 286).bind (·.zero)=some (.agg #[.int .u8 0,.int .u8 0,.int .u8 0,.int .u8 0,.int .u8 0,.int .u8 0,.int .u8 0,.int .u8 0]):=by kernel_rfl
def F5(w:World):(Instr.build 34 [].toArray).run Tryz.prog w= .ok (.agg #[aX,aY]) w:=by kernel_rfl
def O6{a0:Bool}{b0:ByteArray}(w:World):(Instr.build 34 [(0,.bool a0),(1,.string b0)].toArray).run Tryz.prog w= .ok (.agg #[.bool a0,.string b0]) w:=by kernel_rfl
def yL(w:World):(Instr.build 36 [].toArray).run Tryz.prog w= .ok (.agg #[aX,aY,aX,aY]) w:=by kernel_rfl
def qgE{a0:Bool}{a1:ByteArray}(w:World):(Instr.build 36 [(0,.agg #[.bool a0,.string a1])].toArray).run Tryz.prog w= .ok (.agg #[.bool a0,.string a1,aX,aY]) w:=by kernel_rfl
def Ad{a0:Bool}{a1:ByteArray}{b0:Bool}{b1:ByteArray}(w:World):(Instr.build 36 [(0,.agg #[.bool a0,.string a1]),(1,.agg #[.bool b0,.string b1])].toArray).run Tryz.prog w= .ok (.agg #[.bool a0,.string a1,.bool b0,.string b1]) w:=by kernel_rfl
def qgF(w:World):(Instr.build 38 [].toArray).run Tryz.prog w= .ok (.agg #[aX,aY,aX,aY,aX,aY,aX,aY,.bool false]) w:=by kernel_rfl
def JL{a0:Bool}{a1:ByteArray}{a2:Bool}{a3:ByteArray}(w:World):(Instr.build 38 [(0,.agg #[.bool a0,.string a1,.bool a2,.string a3])].toArray).run Tryz.prog w= .ok (.agg #[.bool a0,.string a1,.bool a2,.string a3,aX,aY,aX,aY,.bool false]) w:=by kernel_rfl
def ZX{a0:Bool}{a1:ByteArray}{a2:Bool}{a3:ByteArray}{b0:Bool}{b1:ByteArray}{b2:Bool}{b3:ByteArray}{c0:Bool}(w:World):(Instr.build 38 [(0,.agg #[.bool a0,.string a1,.bool a2,.string a3]),(1,.agg #[.bool b0,.string b1,.bool b2,.string b3]),(2,.bool c0)].toArray).run Tryz.prog w= .ok (.agg #[.bool a0,.string a1,.bool a2,.string a3,.bool b0,.string b1,.bool b2,.string b3,.bool c0]) w:=by kernel_rfl
def JM{a0:Bool}{a1:ByteArray}{a2:Bool}{a3:ByteArray}{a4:Bool}{a5:ByteArray}{a6:Bool}{a7:ByteArray}{a8:Bool}{b0:Bool}{b1:ByteArray}{b2:Bool}{b3:ByteArray}{b4:Bool}{b5:ByteArray}{b6:Bool}{b7:ByteArray}{b8:Bool}(w:World):(Instr.build 61 [(0,.agg #[.bool a0,.string a1,.bool a2,.string a3,.bool a4,.string a5,.bool a6,.string a7,.bool a8]),(1,.agg #[.bool b0,.string b1,.bool b2,.string b3,.bool b4,.string b5,.bool b6,.string b7,.bool b8])].toArray).run Tryz.prog w= .ok (.agg #[.bool a0,.string a1,.bool a2,.string a3,.bool a4,.string a5,.bool a6,.string a7,.bool a8,.bool b0,.string b1,.bool b2,.string b3,.bool b4,.string b5,.bool b6,.string b7,.bool b8,.bool false,.bool false]) w:=by kernel_rfl
def Ur{a0:Bool}{a1:ByteArray}{a2:Bool}{a3:ByteArray}{a4:Bool}{a5:ByteArray}{a6:Bool}{a7:ByteArray}{a8:Bool}{b0:Bool}{b1:ByteArray}{b2:Bool}{b3:ByteArray}{b4:Bool}{b5:ByteArray}{b6:Bool}{b7:ByteArray}{b8:Bool}{c0:Bool}(w:World):(Instr.build 61 [(0,.agg #[.bool a0,.string a1,.bool a2,.string a3,.bool a4,.string a5,.bool a6,.string a7,.bool a8]),(1,.agg #[.bool b0,.string b1,.bool b2,.string b3,.bool b4,.string b5,.bool b6,.string b7,.bool b8]),(2,.bool c0)].toArray).run Tryz.prog w= .ok (.agg #[.bool a0,.string a1,.bool a2,.string a3,.bool a4,.string a5,.bool a6,.string a7,.bool a8,.bool b0,.string b1,.bool b2,.string b3,.bool b4,.string b5,.bool b6,.string b7,.bool b8,.bool c0,.bool false]) w:=by kernel_rfl
def JO{a0:Bool}{a1:ByteArray}{a2:Bool}{a3:ByteArray}{a4:Bool}{a5:ByteArray}{a6:Bool}{a7:ByteArray}{a8:Bool}{b0:Bool}{b1:ByteArray}{b2:Bool}{b3:ByteArray}{b4:Bool}{b5:ByteArray}{b6:Bool}{b7:ByteArray}{b8:Bool}{c0:Bool}{d0:Bool}(w:World):(Instr.build 61 [(0,.agg #[.bool a0,.string a1,.bool a2,.string a3,.bool a4,.string a5,.bool a6,.string a7,.bool a8]),(1,.agg #[.bool b0,.string b1,.bool b2,.string b3,.bool b4,.string b5,.bool b6,.string b7,.bool b8]),(2,.bool c0),(3,.bool d0)].toArray).run Tryz.prog w= .ok (.agg #[.bool a0,.string a1,.bool a2,.string a3,.bool a4,.string a5,.bool a6,.string a7,.bool a8,.bool b0,.string b1,.bool b2,.string b3,.bool b4,.string b5,.bool b6,.string b7,.bool b8,.bool c0,.bool d0]) w:=by kernel_rfl
def O7{a0:Bool}{a1:ByteArray}{a2:Bool}{a3:ByteArray}{a4:Bool}{a5:ByteArray}{a6:Bool}{a7:ByteArray}{a8:Bool}(w:World):(Instr.build 61 [(1,.agg #[.bool a0,.string a1,.bool a2,.string a3,.bool a4,.string a5,.bool a6,.string a7,.bool a8])].toArray).run Tryz.prog w= .ok (.agg #[aX,aY,aX,aY,aX,aY,aX,aY,.bool false,.bool a0,.string a1,.bool a2,.string a3,.bool a4,.string a5,.bool a6,.string a7,.bool a8,.bool false,.bool false]) w:=by kernel_rfl
def QX{a0:Bool}{a1:ByteArray}{a2:Bool}{a3:ByteArray}{a4:Bool}{a5:ByteArray}{a6:Bool}{a7:ByteArray}{a8:Bool}{b0:Bool}{c0:Bool}(w:World):(Instr.build 61 [(1,.agg #[.bool a0,.string a1,.bool a2,.string a3,.bool a4,.string a5,.bool a6,.string a7,.bool a8]),(2,.bool b0),(3,.bool c0)].toArray).run Tryz.prog w= .ok (.agg #[aX,aY,aX,aY,aX,aY,aX,aY,.bool false,.bool a0,.string a1,.bool a2,.string a3,.bool a4,.string a5,.bool a6,.string a7,.bool a8,.bool b0,.bool c0]) w:=by kernel_rfl
def Us{a0:Bool}{a1:ByteArray}{a2:Bool}{a3:ByteArray}{a4:Bool}{a5:ByteArray}{a6:Bool}{a7:ByteArray}{a8:Bool}{a9:Bool}{a10:ByteArray}{a11:Bool}{a12:ByteArray}{a13:Bool}{a14:ByteArray}{a15:Bool}{a16:ByteArray}{a17:Bool}{a18:Bool}{a19:Bool}{b0:Bool}{b1:ByteArray}{b2:Bool}{b3:ByteArray}{b4:Bool}{b5:ByteArray}{b6:Bool}{b7:ByteArray}{b8:Bool}{c0:Bool}{c1:ByteArray}{c2:Bool}{c3:ByteArray}{c4:Bool}{c5:ByteArray}{c6:Bool}{c7:ByteArray}{c8:Bool}(w:World):(Instr.build 63 [(0,.agg #[.bool a0,.string a1,.bool a2,.string a3,.bool a4,.string a5,.bool a6,.string a7,.bool a8,.bool a9,.string a10,.bool a11,.string a12,.bool a13,.string a14,.bool a15,.string a16,.bool a17,.bool a18,.bool a19]),(1,.agg #[.bool b0,.string b1,.bool b2,.string b3,.bool b4,.string b5,.bool b6,.string b7,.bool b8]),(2,.agg #[.bool c0,.string c1,.bool c2,.string c3,.bool c4,.string c5,.bool c6,.string c7,.bool c8])].toArray).run Tryz.prog w= .ok (.agg #[.bool a0,.string a1,.bool a2,.string a3,.bool a4,.string a5,.bool a6,.string a7,.bool a8,.bool a9,.string a10,.bool a11,.string a12,.bool a13,.string a14,.bool a15,.string a16,.bool a17,.bool a18,.bool a19,.bool b0,.string b1,.bool b2,.string b3,.bool b4,.string b5,.bool b6,.string b7,.bool b8,.bool c0,.string c1,.bool c2,.string c3,.bool c4,.string c5,.bool c6,.string c7,.bool c8]) w:=by kernel_rfl
def qgG(w:World):(Instr.build 91 [].toArray).run Tryz.prog w= .ok (.agg #[aX,aY,aX,aY,aX,aY,aX,aY,aX,aY,aX,aY]) w:=by kernel_rfl
def ZY{a0:Bool}{a1:ByteArray}{a2:Bool}{a3:ByteArray}(w:World):(Instr.build 91 [(0,.agg #[.bool a0,.string a1,.bool a2,.string a3])].toArray).run Tryz.prog w= .ok (.agg #[.bool a0,.string a1,.bool a2,.string a3,aX,aY,aX,aY,aX,aY,aX,aY]) w:=by kernel_rfl
def ZZ{a0:Bool}{a1:ByteArray}{a2:Bool}{a3:ByteArray}{b0:Bool}{b1:ByteArray}{b2:Bool}{b3:ByteArray}(w:World):(Instr.build 91 [(0,.agg #[.bool a0,.string a1,.bool a2,.string a3]),(1,.agg #[.bool b0,.string b1,.bool b2,.string b3])].toArray).run Tryz.prog w= .ok (.agg #[.bool a0,.string a1,.bool a2,.string a3,.bool b0,.string b1,.bool b2,.string b3,aX,aY,aX,aY]) w:=by kernel_rfl
def F6{a0:Bool}{a1:ByteArray}{a2:Bool}{a3:ByteArray}{b0:Bool}{b1:ByteArray}{b2:Bool}{b3:ByteArray}{c0:Bool}{c1:ByteArray}{c2:Bool}{c3:ByteArray}(w:World):(Instr.build 91 [(0,.agg #[.bool a0,.string a1,.bool a2,.string a3]),(1,.agg #[.bool b0,.string b1,.bool b2,.string b3]),(2,.agg #[.bool c0,.string c1,.bool c2,.string c3])].toArray).run Tryz.prog w= .ok (.agg #[.bool a0,.string a1,.bool a2,.string a3,.bool b0,.string b1,.bool b2,.string b3,.bool c0,.string c1,.bool c2,.string c3]) w:=by kernel_rfl
def qgH{a0:Bool}{a1:ByteArray}{a2:Bool}{a3:ByteArray}{a4:Bool}{a5:ByteArray}{a6:Bool}{a7:ByteArray}{a8:Bool}{a9:Bool}{a10:ByteArray}{a11:Bool}{a12:ByteArray}{a13:Bool}{a14:ByteArray}{a15:Bool}{a16:ByteArray}{a17:Bool}{a18:Bool}{a19:Bool}{b0:Bool}{b1:ByteArray}{b2:Bool}{b3:ByteArray}{b4:Bool}{b5:ByteArray}{b6:Bool}{b7:ByteArray}{b8:Bool}{b9:ByteArray}{b10:Bool}{b11:ByteArray}(w:World):(Instr.build 93 [(0,.agg #[.bool a0,.string a1,.bool a2,.string a3,.bool a4,.string a5,.bool a6,.string a7,.bool a8,.bool a9,.string a10,.bool a11,.string a12,.bool a13,.string a14,.bool a15,.string a16,.bool a17,.bool a18,.bool a19]),(1,.agg #[.bool b0,.string b1,.bool b2,.string b3,.bool b4,.string b5,.bool b6,.string b7,.bool b8,.string b9,.bool b10,.string b11])].toArray).run Tryz.prog w= .ok (.agg #[.bool a0,.string a1,.bool a2,.string a3,.bool a4,.string a5,.bool a6,.string a7,.bool a8,.bool a9,.string a10,.bool a11,.string a12,.bool a13,.string a14,.bool a15,.string a16,.bool a17,.bool a18,.bool a19,.bool b0,.string b1,.bool b2,.string b3,.bool b4,.string b5,.bool b6,.string b7,.bool b8,.string b9,.bool b10,.string b11]) w:=by kernel_rfl
def qgI{a0:Bool}{a1:ByteArray}{a2:Bool}{a3:ByteArray}{b0:Bool}{b1:ByteArray}{b2:Bool}{b3:ByteArray}{c0:Bool}{c1:ByteArray}{c2:Bool}{c3:ByteArray}(w:World):(Instr.build 98 [(0,.agg #[.bool a0,.string a1,.bool a2,.string a3]),(1,.agg #[.bool b0,.string b1,.bool b2,.string b3]),(2,.agg #[.bool c0,.string c1,.bool c2,.string c3])].toArray).run Tryz.prog w= .ok (.agg #[.bool a0,.string a1,.bool a2,.string a3,.bool b0,.string b1,.bool b2,.string b3,.bool c0,.string c1,.bool c2,.string c3,aX,aY,aX,aY]) w:=by kernel_rfl
def Z4{a0:Bool}{a1:ByteArray}{a2:Bool}{a3:ByteArray}{b0:Bool}{b1:ByteArray}{b2:Bool}{b3:ByteArray}{c0:Bool}{c1:ByteArray}{c2:Bool}{c3:ByteArray}{d0:Bool}{d1:ByteArray}{d2:Bool}{d3:ByteArray}(w:World):(Instr.build 98 [(0,.agg #[.bool a0,.string a1,.bool a2,.string a3]),(1,.agg #[.bool b0,.string b1,.bool b2,.string b3]),(2,.agg #[.bool c0,.string c1,.bool c2,.string c3]),(3,.agg #[.bool d0,.string d1,.bool d2,.string d3])].toArray).run Tryz.prog w= .ok (.agg #[.bool a0,.string a1,.bool a2,.string a3,.bool b0,.string b1,.bool b2,.string b3,.bool c0,.string c1,.bool c2,.string c3,.bool d0,.string d1,.bool d2,.string d3]) w:=by kernel_rfl
def XW{a0:Bool}{a1:ByteArray}{a2:Bool}{a3:ByteArray}{b0:Bool}{b1:ByteArray}{b2:Bool}{b3:ByteArray}(w:World):(Instr.build 98 [(0,.agg #[.bool a0,.string a1,.bool a2,.string a3]),(2,.agg #[.bool b0,.string b1,.bool b2,.string b3])].toArray).run Tryz.prog w= .ok (.agg #[.bool a0,.string a1,.bool a2,.string a3,aX,aY,aX,aY,.bool b0,.string b1,.bool b2,.string b3,aX,aY,aX,aY]) w:=by kernel_rfl
def qdm{a0:Bool}{a1:ByteArray}{a2:Bool}{a3:ByteArray}(w:World):(Instr.build 98 [(1,.agg #[.bool a0,.string a1,.bool a2,.string a3])].toArray).run Tryz.prog w= .ok (.agg #[aX,aY,aX,aY,.bool a0,.string a1,.bool a2,.string a3,aX,aY,aX,aY,aX,aY,aX,aY]) w:=by kernel_rfl
def qdn{a0:Bool}{a1:ByteArray}{a2:Bool}{a3:ByteArray}(w:World):(Instr.build 98 [(2,.agg #[.bool a0,.string a1,.bool a2,.string a3])].toArray).run Tryz.prog w= .ok (.agg #[aX,aY,aX,aY,aX,aY,aX,aY,.bool a0,.string a1,.bool a2,.string a3,aX,aY,aX,aY]) w:=by kernel_rfl
def rE{a0:Bool}{a1:ByteArray}{a2:Bool}{a3:ByteArray}{a4:Bool}{a5:ByteArray}{a6:Bool}{a7:ByteArray}{a8:Bool}{a9:Bool}{a10:ByteArray}{a11:Bool}{a12:ByteArray}{a13:Bool}{a14:ByteArray}{a15:Bool}{a16:ByteArray}{a17:Bool}{a18:Bool}{a19:Bool}{b0:Bool}{b1:ByteArray}{b2:Bool}{b3:ByteArray}{b4:Bool}{b5:ByteArray}{b6:Bool}{b7:ByteArray}{b8:Bool}{b9:ByteArray}{b10:Bool}{b11:ByteArray}{b12:Bool}{b13:ByteArray}{b14:Bool}{b15:ByteArray}(w:World):(Instr.build 100 [(0,.agg #[.bool a0,.string a1,.bool a2,.string a3,.bool a4,.string a5,.bool a6,.string a7,.bool a8,.bool a9,.string a10,.bool a11,.string a12,.bool a13,.string a14,.bool a15,.string a16,.bool a17,.bool a18,.bool a19]),(1,.agg #[.bool b0,.string b1,.bool b2,.string b3,.bool b4,.string b5,.bool b6,.string b7,.bool b8,.string b9,.bool b10,.string b11,.bool b12,.string b13,.bool b14,.string b15])].toArray).run Tryz.prog w= .ok (.agg #[.bool a0,.string a1,.bool a2,.string a3,.bool a4,.string a5,.bool a6,.string a7,.bool a8,.bool a9,.string a10,.bool a11,.string a12,.bool a13,.string a14,.bool a15,.string a16,.bool a17,.bool a18,.bool a19,.bool b0,.string b1,.bool b2,.string b3,.bool b4,.string b5,.bool b6,.string b7,.bool b8,.string b9,.bool b10,.string b11,.bool b12,.string b13,.bool b14,.string b15]) w:=by kernel_rfl
def wE{a0:Bool}{b0:Option Addr}{b0n b0c:Nat}{c0:Option Addr}{c0n c0c:Nat}(w:World):(Instr.build 120 [(0,.bool a0),(1,.slice b0 b0n b0c),(2,.slice c0 c0n c0c)].toArray).run Tryz.prog w= .ok (.agg #[.bool a0,.slice b0 b0n b0c,.slice c0 c0n c0c]) w:=by kernel_rfl
def qdo{a0:Bool}{b0:Bool}{c0:Bool}(w:World):(Instr.build 130 [(0,.bool a0),(1,.bool b0),(2,.bool c0)].toArray).run Tryz.prog w= .ok (.agg #[.bool a0,.bool b0,.bool c0]) w:=by kernel_rfl
def qdp{a0:Bool}{a1:ByteArray}{a2:Bool}{a3:ByteArray}{b0:Bool}{b1:ByteArray}{b2:Bool}{b3:ByteArray}(w:World):(Instr.build 135 [(0,.agg #[.bool a0,.string a1,.bool a2,.string a3]),(1,.agg #[.bool b0,.string b1,.bool b2,.string b3])].toArray).run Tryz.prog w= .ok (.agg #[.bool a0,.string a1,.bool a2,.string a3,.bool b0,.string b1,.bool b2,.string b3]) w:=by kernel_rfl
def qdq{a0:Bool}{a1:ByteArray}{a2:Bool}{a3:ByteArray}{b0:Bool}{b1:ByteArray}{b2:Bool}{b3:ByteArray}{b4:Bool}{b5:ByteArray}{b6:Bool}{b7:ByteArray}(w:World):(Instr.build 137 [(0,.agg #[.bool a0,.string a1,.bool a2,.string a3]),(1,.agg #[.bool b0,.string b1,.bool b2,.string b3,.bool b4,.string b5,.bool b6,.string b7])].toArray).run Tryz.prog w= .ok (.agg #[.bool a0,.string a1,.bool a2,.string a3,.bool b0,.string b1,.bool b2,.string b3,.bool b4,.string b5,.bool b6,.string b7]) w:=by kernel_rfl
def qdr{a0:Bool}{a1:ByteArray}{a2:Bool}{a3:ByteArray}{a4:Bool}{a5:ByteArray}{a6:Bool}{a7:ByteArray}{a8:Bool}{a9:Bool}{a10:ByteArray}{a11:Bool}{a12:ByteArray}{a13:Bool}{a14:ByteArray}{a15:Bool}{a16:ByteArray}{a17:Bool}{a18:Bool}{a19:Bool}{b0:Bool}{b1:ByteArray}{b2:Bool}{b3:ByteArray}{b4:Bool}{b5:ByteArray}{b6:Bool}{b7:ByteArray}{b8:Bool}{b9:ByteArray}{b10:Bool}{b11:ByteArray}{b12:Bool}{b13:ByteArray}{b14:Bool}{b15:ByteArray}{c0:Bool}{c1:ByteArray}{c2:Bool}{c3:ByteArray}{c4:Bool}{c5:ByteArray}{c6:Bool}{c7:ByteArray}{c8:Bool}{c9:ByteArray}{c10:Bool}{c11:ByteArray}{c12:Bool}{c13:ByteArray}{c14:Bool}{c15:ByteArray}(w:World):(Instr.build 151 [(0,.agg #[.bool a0,.string a1,.bool a2,.string a3,.bool a4,.string a5,.bool a6,.string a7,.bool a8,.bool a9,.string a10,.bool a11,.string a12,.bool a13,.string a14,.bool a15,.string a16,.bool a17,.bool a18,.bool a19]),(1,.agg #[.bool b0,.string b1,.bool b2,.string b3,.bool b4,.string b5,.bool b6,.string b7,.bool b8,.string b9,.bool b10,.string b11,.bool b12,.string b13,.bool b14,.string b15]),(2,.agg #[.bool c0,.string c1,.bool c2,.string c3,.bool c4,.string c5,.bool c6,.string c7,.bool c8,.string c9,.bool c10,.string c11,.bool c12,.string c13,.bool c14,.string c15])].toArray).run Tryz.prog w= .ok (.agg #[.bool a0,.string a1,.bool a2,.string a3,.bool a4,.string a5,.bool a6,.string a7,.bool a8,.bool a9,.string a10,.bool a11,.string a12,.bool a13,.string a14,.bool a15,.string a16,.bool a17,.bool a18,.bool a19,.bool b0,.string b1,.bool b2,.string b3,.bool b4,.string b5,.bool b6,.string b7,.bool b8,.string b9,.bool b10,.string b11,.bool b12,.string b13,.bool b14,.string b15,.bool c0,.string c1,.bool c2,.string c3,.bool c4,.string c5,.bool c6,.string c7,.bool c8,.string c9,.bool c10,.string c11,.bool c12,.string c13,.bool c14,.string c15]) w:=by kernel_rfl
def qds{a0:Bool}{a1:ByteArray}{a2:Bool}{a3:ByteArray}{b0:Bool}{b1:ByteArray}{b2:Bool}{b3:ByteArray}{c0:Bool}{c1:ByteArray}{c2:Bool}{c3:ByteArray}(w:World):(Instr.build 174 [(0,.agg #[.bool a0,.string a1,.bool a2,.string a3]),(1,.agg #[.bool b0,.string b1,.bool b2,.string b3]),(2,.agg #[.bool c0,.string c1,.bool c2,.string c3])].toArray).run Tryz.prog w= .ok (.agg #[.bool a0,.string a1,.bool a2,.string a3,.bool b0,.string b1,.bool b2,.string b3,.bool c0,.string c1,.bool c2,.string c3]) w:=by kernel_rfl
def VR{a0:Bool}{a1:ByteArray}{a2:Bool}{a3:ByteArray}{a4:Bool}{a5:ByteArray}{a6:Bool}{a7:ByteArray}{a8:Bool}{a9:Bool}{a10:ByteArray}{a11:Bool}{a12:ByteArray}{a13:Bool}{a14:ByteArray}{a15:Bool}{a16:ByteArray}{a17:Bool}{a18:Bool}{a19:Bool}(w:World):(Instr.build 181 [(0,.agg #[.bool a0,.string a1,.bool a2,.string a3,.bool a4,.string a5,.bool a6,.string a7,.bool a8,.bool a9,.string a10,.bool a11,.string a12,.bool a13,.string a14,.bool a15,.string a16,.bool a17,.bool a18,.bool a19])].toArray).run Tryz.prog w= .ok (.agg #[.bool a0,.string a1,.bool a2,.string a3,.bool a4,.string a5,.bool a6,.string a7,.bool a8,.bool a9,.string a10,.bool a11,.string a12,.bool a13,.string a14,.bool a15,.string a16,.bool a17,.bool a18,.bool a19,.int .i64 0]) w:=by kernel_rfl
def qdt{a0:Bool}{a1:ByteArray}{a2:Bool}{a3:ByteArray}{a4:Bool}{a5:ByteArray}{a6:Bool}{a7:ByteArray}{a8:Bool}{a9:Bool}{a10:ByteArray}{a11:Bool}{a12:ByteArray}{a13:Bool}{a14:ByteArray}{a15:Bool}{a16:ByteArray}{a17:Bool}{a18:Bool}{a19:Bool}{b0:Int}(w:World):(Instr.build 181 [(0,.agg #[.bool a0,.string a1,.bool a2,.string a3,.bool a4,.string a5,.bool a6,.string a7,.bool a8,.bool a9,.string a10,.bool a11,.string a12,.bool a13,.string a14,.bool a15,.string a16,.bool a17,.bool a18,.bool a19]),(1,.int .i64 b0)].toArray).run Tryz.prog w= .ok (.agg #[.bool a0,.string a1,.bool a2,.string a3,.bool a4,.string a5,.bool a6,.string a7,.bool a8,.bool a9,.string a10,.bool a11,.string a12,.bool a13,.string a14,.bool a15,.string a16,.bool a17,.bool a18,.bool a19,.int .i64 b0]) w:=by kernel_rfl
def qdu(w:World):(Instr.build 197 [].toArray).run Tryz.prog w= .ok (.agg #[]) w:=by kernel_rfl
def Ew{a0:Bool}{a1:ByteArray}{a2:Bool}{a3:ByteArray}{a4:Bool}{a5:ByteArray}{a6:Bool}{a7:ByteArray}{a8:Bool}{a9:Bool}{a10:ByteArray}{a11:Bool}{a12:ByteArray}{a13:Bool}{a14:ByteArray}{a15:Bool}{a16:ByteArray}{a17:Bool}{a18:Bool}{a19:Bool}{b0:Bool}{b1:ByteArray}{b2:Bool}{b3:ByteArray}{b4:Bool}{b5:ByteArray}{b6:Bool}{b7:ByteArray}{b8:Bool}{b9:ByteArray}{b10:Bool}{b11:ByteArray}{b12:Bool}{b13:ByteArray}{b14:Bool}{b15:ByteArray}(w:World):(Instr.build 201 [(0,.agg #[.bool a0,.string a1,.bool a2,.string a3,.bool a4,.string a5,.bool a6,.string a7,.bool a8,.bool a9,.string a10,.bool a11,.string a12,.bool a13,.string a14,.bool a15,.string a16,.bool a17,.bool a18,.bool a19]),(1,.agg #[.bool b0,.string b1,.bool b2,.string b3,.bool b4,.string b5,.bool b6,.string b7,.bool b8,.string b9,.bool b10,.string b11,.bool b12,.string b13,.bool b14,.string b15])].toArray).run Tryz.prog w= .ok (.agg #[.bool a0,.string a1,.bool a2,.string a3,.bool a4,.string a5,.bool a6,.string a7,.bool a8,.bool a9,.string a10,.bool a11,.string a12,.bool a13,.string a14,.bool a15,.string a16,.bool a17,.bool a18,.bool a19,.bool b0,.string b1,.bool b2,.string b3,.bool b4,.string b5,.bool b6,.string b7,.bool b8,.string b9,.bool b10,.string b11,.bool b12,.string b13,.bool b14,.string b15]) w:=by kernel_rfl
def VS{a0:Bool}{a1:ByteArray}{a2:Bool}{a3:ByteArray}{a4:Bool}{a5:ByteArray}{a6:Bool}{a7:ByteArray}{a8:Bool}{b0:Bool}(w:World):(Instr.build 209 [(0,.agg #[.bool a0,.string a1,.bool a2,.string a3,.bool a4,.string a5,.bool a6,.string a7,.bool a8]),(1,.bool b0)].toArray).run Tryz.prog w= .ok (.agg #[.bool a0,.string a1,.bool a2,.string a3,.bool a4,.string a5,.bool a6,.string a7,.bool a8,.bool b0]) w:=by kernel_rfl
def IP{a0:Bool}{a1:ByteArray}{a2:Bool}{a3:ByteArray}{a4:Bool}{a5:ByteArray}{a6:Bool}{a7:ByteArray}{a8:Bool}{a9:Bool}(w:World):(Instr.build 253 [(0,.agg #[.bool a0,.string a1,.bool a2,.string a3,.bool a4,.string a5,.bool a6,.string a7,.bool a8,.bool a9])].toArray).run Tryz.prog w= .ok (.agg #[.bool a0,.string a1,.bool a2,.string a3,.bool a4,.string a5,.bool a6,.string a7,.bool a8,.bool a9,.int .i64 0,.int .i64 0]) w:=by kernel_rfl
def qgJ(w:World):(Instr.buildSlice 22 0 [].toArray).run Tryz.prog w= .ok (.slice (some ⟨w.heap.size,0,none⟩) 0 0) (w.alloc (.cells [].toArray 86)):=by kernel_rfl
def uI{a0:Bool}{a1:ByteArray}{a2:Bool}{a3:ByteArray}{a4:Bool}{a5:ByteArray}{a6:Bool}{a7:ByteArray}{a8:Bool}{a9:Bool}{a10:ByteArray}{a11:Bool}{a12:ByteArray}{a13:Bool}{a14:ByteArray}{a15:Bool}{a16:ByteArray}{a17:Bool}{a18:Bool}{a19:Bool}{a20:Bool}{a21:ByteArray}{a22:Bool}{a23:ByteArray}{a24:Bool}{a25:ByteArray}{a26:Bool}{a27:ByteArray}{a28:Bool}{a29:ByteArray}{a30:Bool}{a31:ByteArray}{a32:Bool}{a33:ByteArray}{a34:Bool}{a35:ByteArray}(w:World):(Instr.buildSlice 29 1 [(0,.agg #[.bool a0,.string a1,.bool a2,.string a3,.bool a4,.string a5,.bool a6,.string a7,.bool a8,.bool a9,.string a10,.bool a11,.string a12,.bool a13,.string a14,.bool a15,.string a16,.bool a17,.bool a18,.bool a19,.bool a20,.string a21,.bool a22,.string a23,.bool a24,.string a25,.bool a26,.string a27,.bool a28,.string a29,.bool a30,.string a31,.bool a32,.string a33,.bool a34,.string a35])].toArray).run Tryz.prog w= .ok (.slice (some ⟨w.heap.size,0,none⟩) 1 1) (w.alloc (.cells [.bool a0,.string a1,.bool a2,.string a3,.bool a4,.string a5,.bool a6,.string a7,.bool a8,.bool a9,.string a10,.bool a11,.string a12,.bool a13,.string a14,.bool a15,.string a16,.bool a17,.bool a18,.bool a19,.bool a20,.string a21,.bool a22,.string a23,.bool a24,.string a25,.bool a26,.string a27,.bool a28,.string a29,.bool a30,.string a31,.bool a32,.string a33,.bool a34,.string a35].toArray 100)):=by kernel_rfl
def qgK{a0:Bool}{a1:ByteArray}{a2:Bool}{a3:ByteArray}{a4:Bool}{a5:ByteArray}{a6:Bool}{a7:ByteArray}{a8:Bool}{a9:Bool}{a10:ByteArray}{a11:Bool}{a12:ByteArray}{a13:Bool}{a14:ByteArray}{a15:Bool}{a16:ByteArray}{a17:Bool}{a18:Bool}{a19:Bool}{a20:Bool}{a21:ByteArray}{a22:Bool}{a23:ByteArray}{a24:Bool}{a25:ByteArray}{a26:Bool}{a27:ByteArray}{a28:Bool}{a29:ByteArray}{a30:Bool}{a31:ByteArray}{a32:Bool}{a33:ByteArray}{a34:Bool}{a35:ByteArray}{b0:Bool}{b1:ByteArray}{b2:Bool}{b3:ByteArray}{b4:Bool}{b5:ByteArray}{b6:Bool}{b7:ByteArray}{b8:Bool}{b9:Bool}{b10:ByteArray}{b11:Bool}{b12:ByteArray}{b13:Bool}{b14:ByteArray}{b15:Bool}{b16:ByteArray}{b17:Bool}{b18:Bool}{b19:Bool}{b20:Bool}{b21:ByteArray}{b22:Bool}{b23:ByteArray}{b24:Bool}{b25:ByteArray}{b26:Bool}{b27:ByteArray}{b28:Bool}{b29:ByteArray}{b30:Bool}{b31:ByteArray}{b32:Bool}{b33:ByteArray}{b34:Bool}{b35:ByteArray}(w:World):(Instr.buildSlice 29 2 [(0,.agg #[.bool a0,.string a1,.bool a2,.string a3,.bool a4,.string a5,.bool a6,.string a7,.bool a8,.bool a9,.string a10,.bool a11,.string a12,.bool a13,.string a14,.bool a15,.string a16,.bool a17,.bool a18,.bool a19,.bool a20,.string a21,.bool a22,.string a23,.bool a24,.string a25,.bool a26,.string a27,.bool a28,.string a29,.bool a30,.string a31,.bool a32,.string a33,.bool a34,.string a35]),(1,.agg #[.bool b0,.string b1,.bool b2,.string b3,.bool b4,.string b5,.bool b6,.string b7,.bool b8,.bool b9,.string b10,.bool b11,.string b12,.bool b13,.string b14,.bool b15,.string b16,.bool b17,.bool b18,.bool b19,.bool b20,.string b21,.bool b22,.string b23,.bool b24,.string b25,.bool b26,.string b27,.bool b28,.string b29,.bool b30,.string b31,.bool b32,.string b33,.bool b34,.string b35])].toArray).run Tryz.prog w= .ok (.slice (some ⟨w.heap.size,0,none⟩) 2 2) (w.alloc (.cells [.bool a0,.string a1,.bool a2,.string a3,.bool a4,.string a5,.bool a6,.string a7,.bool a8,.bool a9,.string a10,.bool a11,.string a12,.bool a13,.string a14,.bool a15,.string a16,.bool a17,.bool a18,.bool a19,.bool a20,.string a21,.bool a22,.string a23,.bool a24,.string a25,.bool a26,.string a27,.bool a28,.string a29,.bool a30,.string a31,.bool a32,.string a33,.bool a34,.string a35,.bool b0,.string b1,.bool b2,.string b3,.bool b4,.string b5,.bool b6,.string b7,.bool b8,.bool b9,.string b10,.bool b11,.string b12,.bool b13,.string b14,.bool b15,.string b16,.bool b17,.bool b18,.bool b19,.bool b20,.string b21,.bool b22,.string b23,.bool b24,.string b25,.bool b26,.string b27,.bool b28,.string b29,.bool b30,.string b31,.bool b32,.string b33,.bool b34,.string b35].toArray 100)):=by kernel_rfl
def sZ(w:World):(Instr.buildSlice 32 0 [].toArray).run Tryz.prog w= .ok (.slice (some ⟨w.heap.size,0,none⟩) 0 0) (w.alloc (.cells [].toArray 63)):=by kernel_rfl
def oD{a0:Bool}{a1:ByteArray}{a2:Bool}{a3:ByteArray}{a4:Bool}{a5:ByteArray}{a6:Bool}{a7:ByteArray}{a8:Bool}{a9:Bool}{a10:ByteArray}{a11:Bool}{a12:ByteArray}{a13:Bool}{a14:ByteArray}{a15:Bool}{a16:ByteArray}{a17:Bool}{a18:Bool}{a19:Bool}{a20:Bool}{a21:ByteArray}{a22:Bool}{a23:ByteArray}{a24:Bool}{a25:ByteArray}{a26:Bool}{a27:ByteArray}{a28:Bool}{a29:Bool}{a30:ByteArray}{a31:Bool}{a32:ByteArray}{a33:Bool}{a34:ByteArray}{a35:Bool}{a36:ByteArray}{a37:Bool}(w:World):(Instr.buildSlice 32 1 [(0,.agg #[.bool a0,.string a1,.bool a2,.string a3,.bool a4,.string a5,.bool a6,.string a7,.bool a8,.bool a9,.string a10,.bool a11,.string a12,.bool a13,.string a14,.bool a15,.string a16,.bool a17,.bool a18,.bool a19,.bool a20,.string a21,.bool a22,.string a23,.bool a24,.string a25,.bool a26,.string a27,.bool a28,.bool a29,.string a30,.bool a31,.string a32,.bool a33,.string a34,.bool a35,.string a36,.bool a37])].toArray).run Tryz.prog w= .ok (.slice (some ⟨w.heap.size,0,none⟩) 1 1) (w.alloc (.cells [.bool a0,.string a1,.bool a2,.string a3,.bool a4,.string a5,.bool a6,.string a7,.bool a8,.bool a9,.string a10,.bool a11,.string a12,.bool a13,.string a14,.bool a15,.string a16,.bool a17,.bool a18,.bool a19,.bool a20,.string a21,.bool a22,.string a23,.bool a24,.string a25,.bool a26,.string a27,.bool a28,.bool a29,.string a30,.bool a31,.string a32,.bool a33,.string a34,.bool a35,.string a36,.bool a37].toArray 63)):=by kernel_rfl
def qgL(w:World):(Instr.buildSlice 74 0 [].toArray).run Tryz.prog w= .ok (.slice (some ⟨w.heap.size,0,none⟩) 0 0) (w.alloc (.cells [].toArray 61)):=by kernel_rfl
def lH{a0:Bool}{a1:ByteArray}{a2:Bool}{a3:ByteArray}{a4:Bool}{a5:ByteArray}{a6:Bool}{a7:ByteArray}{a8:Bool}{a9:Bool}{a10:ByteArray}{a11:Bool}{a12:ByteArray}{a13:Bool}{a14:ByteArray}{a15:Bool}{a16:ByteArray}{a17:Bool}{a18:Bool}{a19:Bool}(w:World):(Instr.buildSlice 74 1 [(0,.agg #[.bool a0,.string a1,.bool a2,.string a3,.bool a4,.string a5,.bool a6,.string a7,.bool a8,.bool a9,.string a10,.bool a11,.string a12,.bool a13,.string a14,.bool a15,.string a16,.bool a17,.bool a18,.bool a19])].toArray).run Tryz.prog w= .ok (.slice (some ⟨w.heap.size,0,none⟩) 1 1) (w.alloc (.cells [.bool a0,.string a1,.bool a2,.string a3,.bool a4,.string a5,.bool a6,.string a7,.bool a8,.bool a9,.string a10,.bool a11,.string a12,.bool a13,.string a14,.bool a15,.string a16,.bool a17,.bool a18,.bool a19].toArray 61)):=by kernel_rfl
def qgM{a0:Bool}{a1:ByteArray}{a2:Bool}{a3:ByteArray}{a4:Bool}{a5:ByteArray}{a6:Bool}{a7:ByteArray}{a8:Bool}{a9:Bool}{a10:ByteArray}{a11:Bool}{a12:ByteArray}{a13:Bool}{a14:ByteArray}{a15:Bool}{a16:ByteArray}{a17:Bool}{a18:Bool}{a19:Bool}{a20:Bool}{a21:ByteArray}{a22:Bool}{a23:ByteArray}{a24:Bool}{a25:ByteArray}{a26:Bool}{a27:ByteArray}{a28:Bool}{a29:ByteArray}{a30:Bool}{a31:ByteArray}(w:World):(Instr.buildSlice 88 1 [(0,.agg #[.bool a0,.string a1,.bool a2,.string a3,.bool a4,.string a5,.bool a6,.string a7,.bool a8,.bool a9,.string a10,.bool a11,.string a12,.bool a13,.string a14,.bool a15,.string a16,.bool a17,.bool a18,.bool a19,.bool a20,.string a21,.bool a22,.string a23,.bool a24,.string a25,.bool a26,.string a27,.bool a28,.string a29,.bool a30,.string a31])].toArray).run Tryz.prog w= .ok (.slice (some ⟨w.heap.size,0,none⟩) 1 1) (w.alloc (.cells [.bool a0,.string a1,.bool a2,.string a3,.bool a4,.string a5,.bool a6,.string a7,.bool a8,.bool a9,.string a10,.bool a11,.string a12,.bool a13,.string a14,.bool a15,.string a16,.bool a17,.bool a18,.bool a19,.bool a20,.string a21,.bool a22,.string a23,.bool a24,.string a25,.bool a26,.string a27,.bool a28,.string a29,.bool a30,.string a31].toArray 93)):=by kernel_rfl
def qdv(w:World):(Instr.buildSlice 118 0 [].toArray).run Tryz.prog w= .ok (.slice (some ⟨w.heap.size,0,none⟩) 0 0) (w.alloc (.cells [].toArray 3)):=by kernel_rfl
def gW{a0:Int}(w:World):(Instr.buildSlice 118 1 [(0,.int .i64 a0)].toArray).run Tryz.prog w= .ok (.slice (some ⟨w.heap.size,0,none⟩) 1 1) (w.alloc (.cells [.int .i64 a0].toArray 3)):=by kernel_rfl
def qdw{a0:Int}{b0:Int}(w:World):(Instr.buildSlice 118 2 [(0,.int .i64 a0),(1,.int .i64 b0)].toArray).run Tryz.prog w= .ok (.slice (some ⟨w.heap.size,0,none⟩) 2 2) (w.alloc (.cells [.int .i64 a0,.int .i64 b0].toArray 3)):=by kernel_rfl
def qdx{a0:Int}{b0:Int}{c0:Int}(w:World):(Instr.buildSlice 118 3 [(0,.int .i64 a0),(1,.int .i64 b0),(2,.int .i64 c0)].toArray).run Tryz.prog w= .ok (.slice (some ⟨w.heap.size,0,none⟩) 3 3) (w.alloc (.cells [.int .i64 a0,.int .i64 b0,.int .i64 c0].toArray 3)):=by kernel_rfl
def VT{a0:Bool}{a1:ByteArray}{a2:Bool}{a3:ByteArray}{a4:Bool}{a5:ByteArray}{a6:Bool}{a7:ByteArray}{a8:Bool}{a9:Bool}{a10:ByteArray}{a11:Bool}{a12:ByteArray}{a13:Bool}{a14:ByteArray}{a15:Bool}{a16:ByteArray}{a17:Bool}{a18:Bool}{a19:Bool}{a20:Bool}{a21:ByteArray}{a22:Bool}{a23:ByteArray}{a24:Bool}{a25:ByteArray}{a26:Bool}{a27:ByteArray}{a28:Bool}{a29:ByteArray}{a30:Bool}{a31:ByteArray}{a32:Bool}{a33:ByteArray}{a34:Bool}{a35:ByteArray}{a36:Bool}{a37:ByteArray}{a38:Bool}{a39:ByteArray}{a40:Bool}{a41:ByteArray}{a42:Bool}{a43:ByteArray}{a44:Bool}{a45:ByteArray}{a46:Bool}{a47:ByteArray}{a48:Bool}{a49:ByteArray}{a50:Bool}{a51:ByteArray}(w:World):(Instr.buildSlice 146 1 [(0,.agg #[.bool a0,.string a1,.bool a2,.string a3,.bool a4,.string a5,.bool a6,.string a7,.bool a8,.bool a9,.string a10,.bool a11,.string a12,.bool a13,.string a14,.bool a15,.string a16,.bool a17,.bool a18,.bool a19,.bool a20,.string a21,.bool a22,.string a23,.bool a24,.string a25,.bool a26,.string a27,.bool a28,.string a29,.bool a30,.string a31,.bool a32,.string a33,.bool a34,.string a35,.bool a36,.string a37,.bool a38,.string a39,.bool a40,.string a41,.bool a42,.string a43,.bool a44,.string a45,.bool a46,.string a47,.bool a48,.string a49,.bool a50,.string a51])].toArray).run Tryz.prog w= .ok (.slice (some ⟨w.heap.size,0,none⟩) 1 1) (w.alloc (.cells [.bool a0,.string a1,.bool a2,.string a3,.bool a4,.string a5,.bool a6,.string a7,.bool a8,.bool a9,.string a10,.bool a11,.string a12,.bool a13,.string a14,.bool a15,.string a16,.bool a17,.bool a18,.bool a19,.bool a20,.string a21,.bool a22,.string a23,.bool a24,.string a25,.bool a26,.string a27,.bool a28,.string a29,.bool a30,.string a31,.bool a32,.string a33,.bool a34,.string a35,.bool a36,.string a37,.bool a38,.string a39,.bool a40,.string a41,.bool a42,.string a43,.bool a44,.string a45,.bool a46,.string a47,.bool a48,.string a49,.bool a50,.string a51].toArray 151)):=by kernel_rfl
def qdy(w:World):(Instr.buildSlice 148 0 [].toArray).run Tryz.prog w= .ok (.slice (some ⟨w.heap.size,0,none⟩) 0 0) (w.alloc (.cells [].toArray 201)):=by kernel_rfl
def rF{a0:Bool}{a1:ByteArray}{a2:Bool}{a3:ByteArray}{a4:Bool}{a5:ByteArray}{a6:Bool}{a7:ByteArray}{a8:Bool}{a9:Bool}{a10:ByteArray}{a11:Bool}{a12:ByteArray}{a13:Bool}{a14:ByteArray}{a15:Bool}{a16:ByteArray}{a17:Bool}{a18:Bool}{a19:Bool}{a20:Bool}{a21:ByteArray}{a22:Bool}{a23:ByteArray}{a24:Bool}{a25:ByteArray}{a26:Bool}{a27:ByteArray}{a28:Bool}{a29:ByteArray}{a30:Bool}{a31:ByteArray}{a32:Bool}{a33:ByteArray}{a34:Bool}{a35:ByteArray}(w:World):(Instr.buildSlice 148 1 [(0,.agg #[.bool a0,.string a1,.bool a2,.string a3,.bool a4,.string a5,.bool a6,.string a7,.bool a8,.bool a9,.string a10,.bool a11,.string a12,.bool a13,.string a14,.bool a15,.string a16,.bool a17,.bool a18,.bool a19,.bool a20,.string a21,.bool a22,.string a23,.bool a24,.string a25,.bool a26,.string a27,.bool a28,.string a29,.bool a30,.string a31,.bool a32,.string a33,.bool a34,.string a35])].toArray).run Tryz.prog w= .ok (.slice (some ⟨w.heap.size,0,none⟩) 1 1) (w.alloc (.cells [.bool a0,.string a1,.bool a2,.string a3,.bool a4,.string a5,.bool a6,.string a7,.bool a8,.bool a9,.string a10,.bool a11,.string a12,.bool a13,.string a14,.bool a15,.string a16,.bool a17,.bool a18,.bool a19,.bool a20,.string a21,.bool a22,.string a23,.bool a24,.string a25,.bool a26,.string a27,.bool a28,.string a29,.bool a30,.string a31,.bool a32,.string a33,.bool a34,.string a35].toArray 201)):=by kernel_rfl
def IQ(w:World):(Instr.buildSlice 153 0 [].toArray).run Tryz.prog w= .ok (.slice (some ⟨w.heap.size,0,none⟩) 0 0) (w.alloc (.cells [].toArray 38)):=by kernel_rfl
def Ey{a0:Bool}{a1:ByteArray}{a2:Bool}{a3:ByteArray}{a4:Bool}{a5:ByteArray}{a6:Bool}{a7:ByteArray}{a8:Bool}(w:World):(Instr.buildSlice 153 1 [(0,.agg #[.bool a0,.string a1,.bool a2,.string a3,.bool a4,.string a5,.bool a6,.string a7,.bool a8])].toArray).run Tryz.prog w= .ok (.slice (some ⟨w.heap.size,0,none⟩) 1 1) (w.alloc (.cells [.bool a0,.string a1,.bool a2,.string a3,.bool a4,.string a5,.bool a6,.string a7,.bool a8].toArray 38)):=by kernel_rfl
def VU{a0:Bool}{a1:ByteArray}{a2:Bool}{a3:ByteArray}{a4:Bool}{a5:ByteArray}{a6:Bool}{a7:ByteArray}{a8:Bool}{b0:Bool}{b1:ByteArray}{b2:Bool}{b3:ByteArray}{b4:Bool}{b5:ByteArray}{b6:Bool}{b7:ByteArray}{b8:Bool}(w:World):(Instr.buildSlice 153 2 [(0,.agg #[.bool a0,.string a1,.bool a2,.string a3,.bool a4,.string a5,.bool a6,.string a7,.bool a8]),(1,.agg #[.bool b0,.string b1,.bool b2,.string b3,.bool b4,.string b5,.bool b6,.string b7,.bool b8])].toArray).run Tryz.prog w= .ok (.slice (some ⟨w.heap.size,0,none⟩) 2 2) (w.alloc (.cells [.bool a0,.string a1,.bool a2,.string a3,.bool a4,.string a5,.bool a6,.string a7,.bool a8,.bool b0,.string b1,.bool b2,.string b3,.bool b4,.string b5,.bool b6,.string b7,.bool b8].toArray 38)):=by kernel_rfl
def IR{a0:Bool}{a1:ByteArray}{a2:Bool}{a3:ByteArray}{a4:Bool}{a5:ByteArray}{a6:Bool}{a7:ByteArray}{a8:Bool}{a9:Bool}{a10:ByteArray}{a11:Bool}{a12:ByteArray}{a13:Bool}{a14:ByteArray}{a15:Bool}{a16:ByteArray}{a17:Bool}{a18:Bool}{a19:Bool}{a20:Int}(w:World):(Instr.buildSlice 177 1 [(0,.agg #[.bool a0,.string a1,.bool a2,.string a3,.bool a4,.string a5,.bool a6,.string a7,.bool a8,.bool a9,.string a10,.bool a11,.string a12,.bool a13,.string a14,.bool a15,.string a16,.bool a17,.bool a18,.bool a19,.int .i64 a20])].toArray).run Tryz.prog w= .ok (.slice (some ⟨w.heap.size,0,none⟩) 1 1) (w.alloc (.cells [.bool a0,.string a1,.bool a2,.string a3,.bool a4,.string a5,.bool a6,.string a7,.bool a8,.bool a9,.string a10,.bool a11,.string a12,.bool a13,.string a14,.bool a15,.string a16,.bool a17,.bool a18,.bool a19,.int .i64 a20].toArray 181)):=by kernel_rfl
def qdz{a0:Int}(w:World):(Instr.buildSlice 221 1 [(0,.int .u8 a0)].toArray).run Tryz.prog w= .ok (.slice (some ⟨w.heap.size,0,none⟩) 1 1) (w.alloc (.cells [.int .u8 a0].toArray 5)):=by kernel_rfl
def VV{a0:Bool}{a1:ByteArray}{a2:Bool}{a3:ByteArray}{a4:Bool}{a5:ByteArray}{a6:Bool}{a7:ByteArray}{a8:Bool}{a9:Bool}{a10:Int}{a11:Int}{b0:Bool}{b1:ByteArray}{b2:Bool}{b3:ByteArray}{b4:Bool}{b5:ByteArray}{b6:Bool}{b7:ByteArray}{b8:Bool}{b9:Bool}{b10:Int}{b11:Int}(w:World):(Instr.buildSlice 249 2 [(0,.agg #[.bool a0,.string a1,.bool a2,.string a3,.bool a4,.string a5,.bool a6,.string a7,.bool a8,.bool a9,.int .i64 a10,.int .i64 a11]),(1,.agg #[.bool b0,.string b1,.bool b2,.string b3,.bool b4,.string b5,.bool b6,.string b7,.bool b8,.bool b9,.int .i64 b10,.int .i64 b11])].toArray).run Tryz.prog w= .ok (.slice (some ⟨w.heap.size,0,none⟩) 2 2) (w.alloc (.cells [.bool a0,.string a1,.bool a2,.string a3,.bool a4,.string a5,.bool a6,.string a7,.bool a8,.bool a9,.int .i64 a10,.int .i64 a11,.bool b0,.string b1,.bool b2,.string b3,.bool b4,.string b5,.bool b6,.string b7,.bool b8,.bool b9,.int .i64 b10,.int .i64 b11].toArray 253)):=by kernel_rfl
def qdA{a0:Option Addr}{a0n a0c:Nat}{b0:Option Addr}{b0n b0c:Nat}(w:World):(Instr.buildSlice 250 2 [(0,.slice a0 a0n a0c),(1,.slice b0 b0n b0c)].toArray).run Tryz.prog w= .ok (.slice (some ⟨w.heap.size,0,none⟩) 2 2) (w.alloc (.cells [.slice a0 a0n a0c,.slice b0 b0n b0c].toArray 74)):=by kernel_rfl
def qkF:LM Tryz.prog 86 4 (.agg #[.int .u8 0,.int .u8 0,.int .u8 0,.int .u8 0]):=by exact⟨by kernel_rfl,by decide⟩
def CE:LM Tryz.prog 100 36 (.agg #[aX,aY,aX,aY,aX,aY,aX,aY,.bool false,aX,aY,aX,aY,aX,aY,aX,aY,.bool false,.bool false,.bool false,aX,aY,aX,aY,aX,aY,aX,aY,aX,aY,aX,aY,aX,aY,aX,aY]):=by exact⟨by kernel_rfl,by decide⟩
def Dy:LM Tryz.prog 63 38 (.agg #[aX,aY,aX,aY,aX,aY,aX,aY,.bool false,aX,aY,aX,aY,aX,aY,aX,aY,.bool false,.bool false,.bool false,aX,aY,aX,aY,aX,aY,aX,aY,.bool false,aX,aY,aX,aY,aX,aY,aX,aY,.bool false]):=by exact⟨by kernel_rfl,by decide⟩
def L6:LM Tryz.prog 61 20 (.agg #[aX,aY,aX,aY,aX,aY,aX,aY,.bool false,aX,aY,aX,aY,aX,aY,aX,aY,.bool false,.bool false,.bool false]):=by exact⟨by kernel_rfl,by decide⟩
def qkG:LM Tryz.prog 93 32 (.agg #[aX,aY,aX,aY,aX,aY,aX,aY,.bool false,aX,aY,aX,aY,aX,aY,aX,aY,.bool false,.bool false,.bool false,aX,aY,aX,aY,aX,aY,aX,aY,aX,aY,aX,aY]):=by exact⟨by kernel_rfl,by decide⟩
def H8:LM Tryz.prog 3 1 (.int .i64 0):=by exact⟨by kernel_rfl,by decide⟩
def Ae:LM Tryz.prog 201 36 (.agg #[aX,aY,aX,aY,aX,aY,aX,aY,.bool false,aX,aY,aX,aY,aX,aY,aX,aY,.bool false,.bool false,.bool false,aX,aY,aX,aY,aX,aY,aX,aY,aX,aY,aX,aY,aX,aY,aX,aY]):=by exact⟨by kernel_rfl,by decide⟩
def Cb:LM Tryz.prog 38 9 (.agg #[aX,aY,aX,aY,aX,aY,aX,aY,.bool false]):=by exact⟨by kernel_rfl,by decide⟩
def VW:LM Tryz.prog 181 21 (.agg #[aX,aY,aX,aY,aX,aY,aX,aY,.bool false,aX,aY,aX,aY,aX,aY,aX,aY,.bool false,.bool false,.bool false,.int .i64 0]):=by exact⟨by kernel_rfl,by decide⟩
def el5:LM Tryz.prog 5 1 (.int .u8 0):=by exact⟨by kernel_rfl,by decide⟩
def qfJ:LM Tryz.prog 253 12 (.agg #[aX,aY,aX,aY,aX,aY,aX,aY,.bool false,.bool false,.int .i64 0,.int .i64 0]):=by exact⟨by kernel_rfl,by decide⟩
def tC:LM Tryz.prog 272 1 (.int .u32 0):=by exact⟨by kernel_rfl,by decide⟩
def XX:Tryz.prog.eqGuardType Tryz.prog.depth 34=false:=by kernel_rfl
def Z5:Tryz.prog.eqGuardType Tryz.prog.depth 36=false:=by kernel_rfl
def Mc:Tryz.prog.eqGuardType Tryz.prog.depth 38=false:=by kernel_rfl
def qiU:Tryz.prog.eqGuardType Tryz.prog.depth 61=false:=by kernel_rfl
def qdB:Tryz.prog.eqGuardType Tryz.prog.depth 63=false:=by kernel_rfl
def qkH:Tryz.prog.eqGuardType Tryz.prog.depth 91=false:=by kernel_rfl
def qkI:Tryz.prog.eqGuardType Tryz.prog.depth 98=false:=by kernel_rfl
def u2:Tryz.prog.underlying 2=some (.int .i64):=by kernel_rfl
def u3:Tryz.prog.underlying 3=some (.int .i64):=by kernel_rfl
def u4:Tryz.prog.underlying 4=some .bool:=by kernel_rfl
def u5:Tryz.prog.underlying 5=some (.int .u8):=by kernel_rfl
def u9:Tryz.prog.underlying 9=some .string:=by kernel_rfl
def u22:Tryz.prog.underlying 22=some (.slice 86):=by kernel_rfl
def JP:Tryz.prog.underlying 29=some (.slice 100):=by kernel_rfl
def u32:Tryz.prog.underlying 32=some (.slice 63):=by kernel_rfl
def F7:Tryz.prog.underlying 74=some (.slice 61):=by kernel_rfl
def u88:Tryz.prog.underlying 88=some (.slice 93):=by kernel_rfl
def jb:Tryz.prog.underlying 118=some (.slice 3):=by kernel_rfl
def qkK:Tryz.prog.underlying 130=some (.array 3 4):=by kernel_rfl
def qgN:Tryz.prog.underlying 146=some (.slice 151):=by kernel_rfl
def kX:Tryz.prog.underlying 148=some (.slice 201):=by kernel_rfl
def pX:Tryz.prog.underlying 153=some (.slice 38):=by kernel_rfl
def qgO:Tryz.prog.underlying 174=some (.array 3 36):=by kernel_rfl
def Z7:Tryz.prog.underlying 177=some (.slice 181):=by kernel_rfl
def fM:Tryz.prog.underlying 189=some (.int .u64):=by kernel_rfl
def Ut:Tryz.prog.underlying 221=some (.slice 5):=by kernel_rfl
def qdC:Tryz.prog.underlying 249=some (.slice 253):=by kernel_rfl
def qiV:Tryz.prog.underlying 250=some (.slice 74):=by kernel_rfl
def xU:Tryz.prog.underlying 251=some (.array 2 3):=by kernel_rfl
def yM:Tryz.prog.underlying 270=some (.slice 272):=by kernel_rfl
def dU:Tryz.prog.underlying 272=some (.int .u32):=by kernel_rfl
def qiW:Tryz.prog.underlying 286=some (.array 8 5):=by kernel_rfl
def QY(a a':Bool)(b b':ByteArray)(w:World):(Op.equalIn 10000 34 (.agg #[.bool a,.string b]) (.agg #[.bool a',.string b'])).run Tryz.prog w= .ok ((a==a')&&(b==b')) w:=by
 simp only[beq_toListBytes];simp[go_sem]
 (repeat' split)<;>simp_all
def qiX(a a' c c':Bool)(b b' d d':ByteArray)(w:World):(Op.equalIn 10000 36 (.agg #[.bool a,.string b,.bool c,.string d]) (.agg #[.bool a',.string b',.bool c',.string d'])).run Tryz.prog w=
 .ok ((a==a')&&((b==b')&&((c==c')&&(d==d')))) w:=by
 simp only[beq_toListBytes];simp[go_sem]
 (repeat' split)<;>simp_all
def qiY(x y:Int)(w:World):(Op.equalIn 10000 34 (I x) (I y)).run Tryz.prog w= .ok (decide (x=y)) w:=by
 rw[<-qiI];exact QY _ _ _ _ w
def Z8(p q:Rat)(w:World):(Op.equalIn 10000 36 (Q p) (Q q)).run Tryz.prog w= .ok (decide (p=q)) w:=by
 refine(qiX _ _ _ _ _ _ _ _ w).trans ?_;rw[<-qiJ]
 congr 1
 simp[Bool.and_assoc]
def ni{P:Program}{d:Nat}{T:TypeId}{xs ys:Array Value}{f:Field}{fs:List Field}{x y:Value}{r r':Bool}{w:World}(hn:f.name≠ "_")(hx:(part f.type xs f.offset).run P w= .ok x w)(hy:(part f.type ys f.offset).run P w= .ok y w)
 (h:(Op.equalIn d f.type x y).run P w= .ok r w)(h':(Op.eqFields d xs ys fs).run P w= .ok r' w):(Op.eqFields d xs ys (f::fs)).run P w= .ok (r&&r') w:=by
 simp only[Op.eqFields,hn,ne_eq,not_false_eq_true,if_true,Sem.run_bind,hx,hy,h,Result.andThen_ok];cases r<;>simp[h']
end Go.Proofs.YtaffcpfhedadhaaGreatDoor
namespace Go.Proofs
open Go.Shelf
def Tryz.lays126_ren:Go.Shelf.Ren:=⟨fun|126=>230|n=>n,fun|5=>5|3=>3|9=>9|n=>n,fun|n=>n⟩
def Tryz.lays126:Go.Proofs.Lays.n126 Tryz.prog Tryz.lays126_ren:={
 mixed:=by kernel_rfl
 f126:=Tryz.func230.trans (congrArg some (by kernel_rfl))
 t3:=Tryz.underlying3
 a3:=Tryz.isAgg3
 z3:=Tryz.sizeOf3
 v3:=Tryz.zeroValue3
 t5:=Tryz.underlying5
 a5:=Tryz.isAgg5
 z5:=Tryz.sizeOf5
 v5:=Tryz.zeroValue5
 t9:=Tryz.underlying9
 a9:=Tryz.isAgg9
 z9:=Tryz.sizeOf9
 v9:=Tryz.zeroValue9}
def Tryz.bits_Len8(x:Int)(w:World)(h0:0<=x)(h1:x<=255):
 Calls Tryz.prog 230 #[.int .u8 x] w fun e w'=>e= .returned (.int .i64 (Lib.bitLen x.toNat))∧w'=w:=Any.bits_Len8 Tryz.lays126 x w h0 h1
def Tryz.lays133_ren:Go.Shelf.Ren:=⟨fun|133=>228|128=>247|n=>n,fun|51=>272|3=>3|4=>4|46=>236|5=>5|9=>9|n=>n,fun|n=>n⟩
def Tryz.lays133:Go.Proofs.Lays.n133 Tryz.prog Tryz.lays133_ren:={
 mixed:=by kernel_rfl
 f128:=Tryz.func247.trans (congrArg some (by kernel_rfl))
 f133:=Tryz.func228.trans (congrArg some (by kernel_rfl))
 t3:=Tryz.underlying3
 a3:=Tryz.isAgg3
 z3:=Tryz.sizeOf3
 v3:=Tryz.zeroValue3
 t4:=Tryz.underlying4
 a4:=Tryz.isAgg4
 z4:=Tryz.sizeOf4
 v4:=Tryz.zeroValue4
 t5:=Tryz.underlying5
 a5:=Tryz.isAgg5
 z5:=Tryz.sizeOf5
 v5:=Tryz.zeroValue5
 t9:=Tryz.underlying9
 a9:=Tryz.isAgg9
 z9:=Tryz.sizeOf9
 v9:=Tryz.zeroValue9
 t46:=Tryz.underlying236
 a46:=Tryz.isAgg236
 z46:=Tryz.sizeOf236
 v46:=Tryz.zeroValue236
 t51:=Tryz.underlying272
 a51:=Tryz.isAgg272
 z51:=Tryz.sizeOf272
 v51:=Tryz.zeroValue272}
def Tryz.bits_LeadingZeros32(x:Int)(w:World)(h0:0<=x)(h1:x<=4294967295):
 Calls Tryz.prog 228 #[.int .u32 x] w fun e w'=>e= .returned (.int .i64 (32-(Lib.bitLen x.toNat:Int)))∧w'=w:=Any.bits_LeadingZeros32 Tryz.lays133 x w h0 h1
def Tryz.lays106_ren:Go.Shelf.Ren:=⟨fun|106=>225|213=>248|265=>271|n=>n,fun|9=>9|3=>3|n=>n,fun|n=>n⟩
def Tryz.lays106:Go.Proofs.Lays.n106 Tryz.prog Tryz.lays106_ren:={
 mixed:=by kernel_rfl
 f106:=Tryz.func225.trans (congrArg some (by kernel_rfl))
 f213:=Tryz.func248.trans (congrArg some (by kernel_rfl))
 f265:=Tryz.func271.trans (congrArg some (by kernel_rfl))
 t3:=Tryz.underlying3
 a3:=Tryz.isAgg3
 z3:=Tryz.sizeOf3
 v3:=Tryz.zeroValue3
 t9:=Tryz.underlying9
 a9:=Tryz.isAgg9
 z9:=Tryz.sizeOf9
 v9:=Tryz.zeroValue9}
open Go.RowKit in
def Tryz.strings_Compare(a b:ByteArray)(w:World):
 Calls Tryz.prog 225 #[.string a,.string b] w fun e w'=>e= .returned (.int .i64 (Lib.compareBytes a.data.toList b.data.toList))∧w'=w:=Any.strings_Compare Tryz.lays106 a b w
def Tryz.lays129_ren:Go.Shelf.Ren:=⟨fun|129=>226|n=>n,fun|53=>189|3=>3|4=>4|46=>236|5=>5|9=>9|n=>n,fun|n=>n⟩
def Tryz.lays129:Go.Proofs.Lays.n129 Tryz.prog Tryz.lays129_ren:={
 mixed:=by kernel_rfl
 f129:=Tryz.func226.trans (congrArg some (by kernel_rfl))
 t3:=Tryz.underlying3
 a3:=Tryz.isAgg3
 z3:=Tryz.sizeOf3
 v3:=Tryz.zeroValue3
 t4:=Tryz.underlying4
 a4:=Tryz.isAgg4
 z4:=Tryz.sizeOf4
 v4:=Tryz.zeroValue4
 t5:=Tryz.underlying5
 a5:=Tryz.isAgg5
 z5:=Tryz.sizeOf5
 v5:=Tryz.zeroValue5
 t9:=Tryz.underlying9
 a9:=Tryz.isAgg9
 z9:=Tryz.sizeOf9
 v9:=Tryz.zeroValue9
 t46:=Tryz.underlying236
 a46:=Tryz.isAgg236
 z46:=Tryz.sizeOf236
 v46:=Tryz.zeroValue236
 t53:=Tryz.underlying189
 a53:=Tryz.isAgg189
 z53:=Tryz.sizeOf189
 v53:=Tryz.zeroValue189}
def Tryz.bits_Len64(x:Int)(w:World)(h0:0<=x)(h1:x<=18446744073709551615):
 Calls Tryz.prog 226 #[.int .u64 x] w fun e w'=>e= .returned (.int .i64 (Lib.bitLen x.toNat))∧w'=w:=Any.bits_Len64 Tryz.lays129 x w h0 h1
def Tryz.lays264_ren:Go.Shelf.Ren:=⟨fun|264=>202|n=>n,fun|53=>189|46=>236|n=>n,fun|n=>n⟩
def Tryz.lays264:Go.Proofs.Lays.n264 Tryz.prog Tryz.lays264_ren:={
 mixed:=by kernel_rfl
 f264:=Tryz.func202.trans (congrArg some (by kernel_rfl))
 t46:=Tryz.underlying236
 a46:=Tryz.isAgg236
 z46:=Tryz.sizeOf236
 v46:=Tryz.zeroValue236
 t53:=Tryz.underlying189
 a53:=Tryz.isAgg189
 z53:=Tryz.sizeOf189
 v53:=Tryz.zeroValue189}
open Go.RowKit Go.Lib in
def Tryz.bits_Mul64(x y:Nat)(hx:x<18446744073709551616)(hy:y<18446744073709551616)(w:World):
 Calls Tryz.prog 202 #[.int .u64 x,.int .u64 y] w fun e w'=>e= .returned (.tuple #[.int .u64 ((x*y/18446744073709551616:Nat):Int),.int .u64 ((x*y%18446744073709551616:Nat):Int)])∧w'=w:=Any.bits_Mul64 Tryz.lays264 x y hx hy w
def Tryz.lays105_ren:Go.Shelf.Ren:=⟨fun|105=>231|212=>249|99=>250|165=>251|166=>252|170=>253|169=>254|263=>272|264=>202|206=>273|240=>274|241=>275|276=>285|277=>286|n=>n,fun|9=>9|3=>3|4=>4|20=>20|0=>0|46=>236|109=>303|5=>5|72=>308|76=>312|51=>272|146=>334|53=>189|148=>267|70=>306|37=>221|75=>311|127=>336|164=>346|80=>273|n=>n,fun|n=>n⟩
def Tryz.lays105:Go.Proofs.Lays.n105 Tryz.prog Tryz.lays105_ren:={
 mixed:=by kernel_rfl
 f99:=Tryz.func250.trans (congrArg some (by kernel_rfl))
 f105:=Tryz.func231.trans (congrArg some (by kernel_rfl))
 f165:=Tryz.func251.trans (congrArg some (by kernel_rfl))
 f166:=Tryz.func252.trans (congrArg some (by kernel_rfl))
 f169:=Tryz.func254.trans (congrArg some (by kernel_rfl))
 f170:=Tryz.func253.trans (congrArg some (by kernel_rfl))
 f206:=Tryz.func273.trans (congrArg some (by kernel_rfl))
 f212:=Tryz.func249.trans (congrArg some (by kernel_rfl))
 f240:=Tryz.func274.trans (congrArg some (by kernel_rfl))
 f241:=Tryz.func275.trans (congrArg some (by kernel_rfl))
 f263:=Tryz.func272.trans (congrArg some (by kernel_rfl))
 f264:=Tryz.func202.trans (congrArg some (by kernel_rfl))
 f276:=Tryz.func285.trans (congrArg some (by kernel_rfl))
 f277:=Tryz.func286.trans (congrArg some (by kernel_rfl))
 t0:=Tryz.underlying0
 a0:=Tryz.isAgg0
 z0:=Tryz.sizeOf0
 v0:=Tryz.zeroValue0
 t3:=Tryz.underlying3
 a3:=Tryz.isAgg3
 z3:=Tryz.sizeOf3
 v3:=Tryz.zeroValue3
 t4:=Tryz.underlying4
 a4:=Tryz.isAgg4
 z4:=Tryz.sizeOf4
 v4:=Tryz.zeroValue4
 t5:=Tryz.underlying5
 a5:=Tryz.isAgg5
 z5:=Tryz.sizeOf5
 v5:=Tryz.zeroValue5
 t9:=Tryz.underlying9
 a9:=Tryz.isAgg9
 z9:=Tryz.sizeOf9
 v9:=Tryz.zeroValue9
 t20:=Tryz.underlying20
 a20:=Tryz.isAgg20
 z20:=Tryz.sizeOf20
 v20:=Tryz.zeroValue20
 t37:=Tryz.underlying221
 a37:=Tryz.isAgg221
 z37:=Tryz.sizeOf221
 v37:=Tryz.zeroValue221
 t46:=Tryz.underlying236
 a46:=Tryz.isAgg236
 z46:=Tryz.sizeOf236
 v46:=Tryz.zeroValue236
 t51:=Tryz.underlying272
 a51:=Tryz.isAgg272
 z51:=Tryz.sizeOf272
 v51:=Tryz.zeroValue272
 t53:=Tryz.underlying189
 a53:=Tryz.isAgg189
 z53:=Tryz.sizeOf189
 v53:=Tryz.zeroValue189
 t70:=Tryz.underlying306
 a70:=Tryz.isAgg306
 z70:=Tryz.sizeOf306
 v70:=Tryz.zeroValue306
 t72:=Tryz.underlying308
 a72:=Tryz.isAgg308
 z72:=Tryz.sizeOf308
 v72:=Tryz.zeroValue308
 t75:=Tryz.underlying311
 a75:=Tryz.isAgg311
 z75:=Tryz.sizeOf311
 v75:=Tryz.zeroValue311
 t76:=Tryz.underlying312
 a76:=Tryz.isAgg312
 z76:=Tryz.sizeOf312
 v76:=Tryz.zeroValue312
 t109:=Tryz.underlying303
 a109:=Tryz.isAgg303
 z109:=Tryz.sizeOf303
 v109:=Tryz.zeroValue303
 t127:=Tryz.underlying336
 a127:=Tryz.isAgg336
 z127:=Tryz.sizeOf336
 v127:=Tryz.zeroValue336
 t146:=Tryz.underlying334
 a146:=Tryz.isAgg334
 z146:=Tryz.sizeOf334
 v146:=Tryz.zeroValue334
 t148:=Tryz.underlying267
 a148:=Tryz.isAgg267
 z148:=Tryz.sizeOf267
 v148:=Tryz.zeroValue267
 t164:=Tryz.underlying346
 a164:=Tryz.isAgg346
 z164:=Tryz.sizeOf346
 v164:=Tryz.zeroValue346}
def Tryz.Builder_Extra_105:Builder.Extra Tryz.prog Tryz.lays105_ren:={
 sizeBuilder:=by kernel_rfl
 liesBuilder:=by kernel_rfl
 t5:=Tryz.underlying5
 a5:=Tryz.isAgg5
 z5:=Tryz.sizeOf5
 v5:=Tryz.zeroValue5
 infoByte:=by kernel_rfl
 cellsByte:=by kernel_rfl
 sizeByte:=by kernel_rfl
 neB5:=by decide}
open Go.RowKit Go.Lib in
def Tryz.strings_Repeat(s:ByteArray)(c:Nat)(w:World)(hc:c<=9223372036854775807)(hlen:s.size*c<=140737488355328):
 Calls Tryz.prog 231 #[.string s,.int .i64 c] w fun e w'=>e= .returned (.string ⟨(Lib.repeatL s.data.toList c).toArray⟩)∧Below w.heap.size w w':=Any.strings_Repeat Tryz.lays105 Tryz.Builder_Extra_105 s c w hc hlen
end Go.Proofs
namespace Go.Via
variable[Mo]
open Go Go.RowKit
def Af{P:Program}{f:Nat}{args:Array Value}{v:Value}(hp:ja P f=true)(h:∀w,Calls P f args w fun e w'=>e= .returned v∧w'=w):aP P f args v:=
 ⟨hp,fun w=>(h w).mono (by rintro e w' ⟨h1,rfl⟩;exact⟨h1,fP.refl _ _⟩)⟩
def wY{x:Nat}(h:x<2^64)(h0:x≠0):1<=Lib.bitLen x∧2^(Lib.bitLen x-1)<=x∧x<2^Lib.bitLen x:=Lib.bitLenAux_bounds 64 x h h0
theorem XY{x:Nat}(h:x<18446744073709551616)(h0:x≠0):(Lib.bitLen x+7)/8=nb x:=by
 obtain⟨h1,h2,h3⟩:=wY (by omega) h0
 generalize hb:Lib.bitLen x=b at*
 have e1:nb x<=(b+7)/8:=nY (by
 have:(256:Nat)^((b+7)/8)=2^(8*((b+7)/8)):=(by rw[Nat.pow_mul]);rw[this];exact Nat.lt_of_lt_of_le h3 (Nat.pow_le_pow_right (by omega) (by omega)))
 have e2:(b+7)/8<=nb x:=by
  have:(b-1)/8<nb x:=OY (by omega) (by
 have:(256:Nat)^((b-1)/8)=2^(8*((b-1)/8)):=(by rw[Nat.pow_mul]);rw[this];exact Nat.le_trans (Nat.pow_le_pow_right (by omega) (by omega)) h2)
  omega
 omega
def F8:∀(a b:List Nat),a.length=b.length->(∀d∈a,d<256)->(∀d∈b,d<256)->
 Lib.compareBytes (a.reverse.map UInt8.ofNat) (b.reverse.map UInt8.ofNat)=if val 256 a<val 256 b then-1 else if val 256 b<val 256 a then 1 else 0:=by
 have key:∀(a b:List UInt8),a.length=b.length->Lib.compareBytes a b=if mZ a<mZ b then-1 else if mZ b<mZ a then 1 else 0:=by
  intro a
  induction a with
  |nil=>intro b h;cases b with
   |nil=>simp[Lib.compareBytes]
   |cons y b=>simp at h
  |cons x a ih=>
   intro b h;cases b with
   |nil=>simp at h
   |cons y b=>
    have hl:a.length=b.length:=(by simpa using h);have ea:mZ (x::a)=mZ a+256^a.length*x.toNat:=by
     unfold mZ;rw[List.reverse_cons,List.map_append,qR];simp[val]
    have eb:mZ (y::b)=mZ b+256^a.length*y.toNat:=by
     unfold mZ;rw[List.reverse_cons,List.map_append,qR];simp[val,hl]
    have la:mZ a<256^a.length:=by
     have:=FX (B:=256) (by omega) (Jz a);simpa[mZ] using this
    have lb:mZ b<256^a.length:=by
     have:=FX (B:=256) (by omega) (Jz b);rw[hl];simpa[mZ] using this
    have hx:∀{p q r s M:Nat},p<M->q<M->r<s->p+M*r<q+M*s:=by
     intro p q r s M h1 h2 h3;have:M*(r+1)<=M*s:=Nat.mul_le_mul_left M h3;rw[Nat.mul_add] at this;omega
    rw[Lib.compareBytes,ea,eb]
    by_cases h1:x<y
    ·have:=hx la lb (UInt8.lt_iff_toNat_lt.1 h1);rw[if_pos h1,if_pos this]
    ·by_cases h2:y<x
     ·have:=hx lb la (UInt8.lt_iff_toNat_lt.1 h2);rw[if_neg h1,if_pos h2,if_neg (by omega),if_pos this]
     ·have e:x=y:=by
       apply UInt8.toNat_inj.1
       have:=mt UInt8.lt_iff_toNat_lt.2 h1;have:=mt UInt8.lt_iff_toNat_lt.2 h2;omega
      subst e;rw[if_neg h1,if_neg h2,ih b hl];simp only[Nat.add_lt_add_iff_right]
 intro a b hl ha hb;rw[key _ _ (by simp[hl])];unfold mZ;simp only[List.map_reverse,List.reverse_reverse];rw[oP ha,oP hb]
theorem QZ{m n:Nat}(h:nb m=nb n):Lib.compareBytes (bQ m).data.toList (bQ n).data.toList=if m<n then-1 else if n<m then 1 else 0:=by
 rw[Eo,Eo];have:=F8 (ag 256 m) (ag 256 n) h (Bh (by omega)) (Bh (by omega));rw[sG (by omega),sG (by omega)] at this;exact this
end Go.Via
namespace Go.Proofs.YtaffcpfhedadhaaGreatDoor
variable[Go.Via.Mo]
open Go Go.RowKit Go.Via
def Ez(x:Nat)(h:x<18446744073709551616:=by omega):aP Tryz.prog 226 #[.int .u64 x] (.int .i64 (Lib.bitLen x:Nat)):=
 Af (by kernel_rfl) fun w=>by have:=Tryz.bits_Len64 x w (by omega) (by omega);simpa using this
def uJ(x:Nat)(h:x<4294967296:=by omega):aP Tryz.prog 228 #[.int .u32 x] (.int .i64 (32-(Lib.bitLen x:Int))):=
 Af (by kernel_rfl) fun w=>by have:=Tryz.bits_LeadingZeros32 x w (by omega) (by omega);simpa using this
def EC(x y:Nat)(hx:x<18446744073709551616:=by omega)(hy:y<18446744073709551616:=by omega):aP Tryz.prog 202 #[.int .u64 x,.int .u64 y] (.tuple #[.int .u64 ((x*y/18446744073709551616:Nat):Int),.int .u64 ((x*y%18446744073709551616:Nat):Int)]):=
 Af (by kernel_rfl) fun w=>Tryz.bits_Mul64 x y hx hy w
def ED(a b:ByteArray):aP Tryz.prog 225 #[.string a,.string b] (.int .i64 (Lib.compareBytes a.data.toList b.data.toList)):=
 Af (by kernel_rfl) fun w=>Tryz.strings_Compare a b w
def qdD{bl:List Nat}{ops:Array Oper}{K:St->Prop}{rest:List Oper}{nt:Nat}{t:List (Nat×Value)}{L:List aG}{d:Nat}{ty:TypeId}{pos:String}{af:Array Edge}{g:Option (Nat×Bool)}{x y z:Operand}{ts:Array TypeId}(m n:Nat)(hd:Nat.blt d nt=true)(hg:ax ops ⟨some d,.call {callee:= .value (.func 238),args:= #[x,y,z],argTypes:=ts},ty,pos,af,g⟩ t=some true)
 (hx:ev t x=some (.int .u64 (m:Int)))(hy:ev t y=some (.int .u64 (n:Int)))(hz:ev t z=some (.int .u64 0))(h:aW Tryz.prog bl ops rest ⟨nt,(d,.tuple #[.int .u64 (((m+n)%18446744073709551616:Nat):Int),.int .u64 (((m+n)/18446744073709551616:Nat):Int)])::t,L⟩ K):
 aW Tryz.prog bl ops (⟨some d,.call {callee:= .value (.func 238),args:= #[x,y,z],argTypes:=ts},ty,pos,af,g⟩::rest) ⟨nt,t,L⟩ K:=
 qgj hd hg rfl (fun B a w hrel=>by
 have h1:(callFunc 238 #[.int .u64 (m:Int),.int .u64 (n:Int),.int .u64 0]).run Tryz.prog w= .ok (.value (.tuple #[.int .u64 (((m+n)%18446744073709551616:Nat):Int),.int .u64 (((m+n)/18446744073709551616:Nat):Int)])) w:=by
  rw[run_callFunc_extern Tryz.func238 (by kernel_rfl) (by kernel_rfl) (by kernel_rfl) (e:=add64Entry) (by kernel_rfl),run_add64 m n 0 (by omega) (by omega) (by omega) (by omega)];simp only[Result.andThen]
  congr 5<;>omega
 have hv:(#[x,y,z]:Array Operand).map a.eval= #[.int .u64 (m:Int),.int .u64 (n:Int),.int .u64 0]:=by
  show(([x,y,z]:List Operand).toArray).map a.eval=_;rw[List.map_toArray,List.map_cons,List.map_cons,List.map_cons,List.map_nil,hrel.ev hx,hrel.ev hy,hrel.ev hz]
 have hf:a.eval (.func 238)= .func (.func 238) #[] #[]:=rfl;simp only[execOp,resolve,hf,hv,Deferred.ofValue,invoke,Sem.run_bind,Sem.run_pure,Result.andThen_ok]
 simpa using h1) h
end Go.Proofs.YtaffcpfhedadhaaGreatDoor
