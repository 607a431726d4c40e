/-
  Part 18 (chapter 32): lemmas, walks. Each theorem states its own conditions.
-/
import GoSem.Core.World
import Derived.MapKept
import Derived.WalkKit
import Derived.WalkSpells
import Derived.WalkLawsBesides
import Derived.Deep.LoopGhost
import Derived.Deep.AppendSrc
import Derived.Laws.BytesArg
import Derived.Laws.CopyRow
import Derived.Laws.AppendOwn
import Derived.Deep.Upon
import Derived.Laws.Small
import Derived.WideKeyEntry
import Derived.Defers
import Derived.Test.YtaffcpfhedadhaaGreatDoorProg
import Derived.Test.YtaffcpfhedadhaaGreatDoorA12
import Derived.Test.YtaffcpfhedadhaaGreatDoorA15
set_option linter.all false
set_option maxRecDepth 20000
set_option maxHeartbeats 20000000
section
variable{P Q:Prop}{T:Type}{R:T->Prop}
def OX(h:P:=by subst hnt;exact h):=h
end
namespace Go.Via
variable[Mo]
open Go Go.RowKit
noncomputable abbrev gB(T:NP)(own:Bool):aJ:=⟨none,gE T,[],0,own⟩
section
variable{P:Program}{bl:List Nat}{ops:Array Oper}{K:St->Prop}{rest:List Oper}{nt:Nat}{t:List (Nat×Value)}{L:List aJ}{d:Nat}{ty:TypeId}{pos:String}{af:Array Edge}{g:Option (Nat×Bool)}
end
theorem bg.setG{B:Bs}{w:World}{L:List aJ}(h:bg B L w){j:Nat}{b:aJ}(hj:L[j]? =some b)(hb:b.base=none)(T:NP)(o:Bool)(hT:IK T=true)
 (hf:∀p∈T,tK w p∧(o=true->B.own p.1)∧∀c∈L,c.own=true->c.base≠some p.1):bg B (L.set j (gB T o)) w:=by
 have hjl:=(List.getElem?_eq_some_iff.1 hj).1;have at_:∀(m:Nat) (c:aJ),(L.set j (gB T o))[m]? =some c->c=gB T o∨(m≠j∧L[m]? =some c):=fun m c hm=>by
  by_cases e:j=m
  ·subst e;rw[List.getElem?_set_self hjl] at hm;cases hm;exact .inl rfl
  ·rw[List.getElem?_set_ne e] at hm;exact .inr ⟨fun h=>e h.symm,hm⟩
 have mem_:∀c∈L.set j (gB T o),c=gB T o∨c∈L:=fun c hc=>(List.mem_or_eq_of_mem_set hc).symm
 refine⟨h.bel,fun m c hm=>?_,fun i k g bi bk hik hi hk ho hg hgk=>?_,fun c hc hn U hU he p hp=>?_⟩
 ·rcases at_ m c hm with rfl|⟨_,h1⟩
  ·exact⟨fun g hg=>(by cases hg),fun _=>⟨rfl,rfl⟩⟩
  ·exact h.blk m c h1
 ·rcases at_ i bi hi with rfl|⟨_,h1⟩
  ·cases hg
  ·rcases at_ k bk hk with rfl|⟨_,h2⟩
   ·cases hgk
   ·exact h.apart i k g bi bk hik h1 h2 ho hg hgk
 ·rcases mem_ c hc with rfl|h1
  ·obtain rfl:=qlS hT hU he;obtain⟨a1,a2,a3⟩:=hf p hp;refine⟨a1,a2,fun c' hc' ho'=>?_⟩
   rcases mem_ c' hc' with rfl|h2
   ·intro e;cases e
   ·exact a3 c' h2 ho'
  ·obtain⟨a1,a2,a3⟩:=h.grp c h1 hn U hU he p hp;refine⟨a1,a2,fun c' hc' ho'=>?_⟩
   rcases mem_ c' hc' with rfl|h2
   ·intro e;cases e
   ·exact a3 c' h2 ho'
end Go.Via
namespace Go.Via
variable[Mo]
open Go Go.RowKit
def IU(L:List aJ)(g:Nat):Prop:=∃b∈L,b.own=true∧b.base=some g
def bg.ownG{B:Bs}{w:World}{L:List aJ}(h:bg B L w){b:aJ}(hb:b∈L)(ho:b.own=true){g:Nat}(hg:b.base=some g):B.own g:=by
 obtain⟨k,hk⟩:=List.mem_iff_getElem?.1 hb;exact((h.blk k b hk).1 g hg).2 ho
def bg.ltG{B:Bs}{w:World}{L:List aJ}(h:bg B L w){b:aJ}(hb:b∈L){g:Nat}(hg:b.base=some g):g<w.heap.size:=by
 obtain⟨k,hk⟩:=List.mem_iff_getElem?.1 hb;exact h.lt hk hg
def bg.rebase{B:Bs}{w:World}{L:List aJ}(h:bg B L w)(hO:(L.all fun b=>Nat.blt b.e dn||(!b.own||b.base.isSome))=true):bg ⟨w,IU L,[]⟩ L w:=by
 refine⟨⟨rfl,rfl,rfl,Nat.le_refl _,fun _ _ _=>rfl,fun _=>Nat.le_refl _⟩,fun k b hk=>?_,h.apart,fun b hb hn T hT he p hp=>?_⟩
 ·obtain⟨h1,h2⟩:=h.blk k b hk;exact⟨fun g hg=>⟨(h1 g hg).1,fun ho=> .inr ⟨b,List.mem_of_getElem? hk,ho,hg⟩⟩,h2⟩
 ·obtain⟨a1,_,a3⟩:=h.grp b hb hn T hT he p hp;refine⟨a1,fun ho=>?_,a3⟩
  have:=List.all_eq_true.1 hO b hb;rw[ho,hn] at this;have h2:Nat.blt b.e dn=true:=(by simpa using this);have h3:b.e<dn:=Ig;exact absurd (he▸h3) (JJ T)
def bg.joinG{B:Bs}{w w':World}{A R new:List aJ}(h:bg B (A++R) w)(h':bg ⟨w,IU A,[]⟩ new w')(hA:∀b∈A,b.own=true)(hn:∀b∈new,b.own=true∨∃a∈A,a.base=b.base∧b.base.isSome=true):bg B (new++R) w':=by
 have hS:∀g,IU A g->B.own g:=fun g ⟨b,hb,ho,hg⟩=>h.ownG (List.mem_append_left _ hb) ho hg
 have hle:Bs.le B ⟨w,IU A,[]⟩:=fun g hg=>by
  rcases hg with hg|hg
  ·exact .inl (Nat.le_trans h.bel.size hg)
  ·exact hS g hg
 have keep:∀g,g<w.heap.size->¬IU A g->w'.heap[g]? =w.heap[g]? :=fun g hg hS'=>h'.bel.block g hg hS'
 have apR:∀c∈R,∀g,c.base=some g->¬IU A g:=fun c hc g hg ⟨b,hb,ho,hbg⟩=>by
  obtain⟨i,hi⟩:=List.mem_iff_getElem?.1 hb;obtain⟨j,hj⟩:=List.mem_iff_getElem?.1 hc;have hil:=(List.getElem?_eq_some_iff.1 hi).1;exact h.apart i (A.length+j) g b c ae (by rw[List.getElem?_append_left hil];exact hi) (by rw[List.getElem?_append_right ae,Nat.add_sub_cancel_left];exact hj) ho hbg hg
 have ownN:∀b∈new,∀g,b.base=some g->w.heap.size<=g∨IU A g:=fun b hb g hg=>by
  obtain⟨k,hk⟩:=List.mem_iff_getElem?.1 hb;rcases hn b hb with h1|⟨a,ha,h1,_⟩
  ·exact((h'.blk k b hk).1 g hg).2 h1
  ·exact .inr ⟨a,ha,hA a ha,h1.trans hg⟩
 have farN:∀b∈new,∀g,b.base=some g->∀c∈R,c.base≠some g:=fun b hb g hg c hc hcg=>by
  rcases ownN b hb g hg with h1|h1
  ·have:=h.ltG (List.mem_append_right _ hc) hcg;omega
  ·exact apR c hc g hcg h1
 refine⟨⟨h'.bel.os.trans h.bel.os,h'.bel.tape.trans h.bel.tape,h'.bel.output.trans h.bel.output,Nat.le_trans h.bel.size h'.bel.size,fun k hk hk'=>?_,fun m=>Nat.le_trans (h.bel.drawn m) (h'.bel.drawn m)⟩,fun k b hk=>?_,fun i j g bi bj hij hi hj ho hg hgj=>?_,fun b hb hb0 T hT he p hp=>?_⟩
 ·have h1:¬IU A k:=fun hq=>by
   rcases hS k hq with h2|h2
   ·omega
   ·exact hk' h2
  exact(keep k (Nat.lt_of_lt_of_le hk h.bel.size) h1).trans (h.bel.block k hk hk')
 ·rw[List.getElem?_append] at hk
  split at hk
  ·obtain⟨a1,a2⟩:=h'.blk k b hk;exact⟨fun g hg=>⟨(a1 g hg).1,fun ho=>hle _ ((a1 g hg).2 ho)⟩,a2⟩
  ·have hbR:=List.mem_of_getElem? hk;obtain⟨j,hj⟩:=List.mem_iff_getElem?.1 hbR;obtain⟨a1,a2⟩:=h.blk (A.length+j) b (by rw[List.getElem?_append_right ae,Nat.add_sub_cancel_left];exact hj);exact⟨fun g hg=>(a1 g hg).heap (keep g (a1 g hg).lt (apR b hbR g hg)),a2⟩
 ·rw[List.getElem?_append] at hi hj
  split at hi<;>split at hj
  ·exact h'.apart i j g bi bj hij hi hj ho hg hgj
  ·exact farN bi (List.mem_of_getElem? hi) g hg bj (List.mem_of_getElem? hj) hgj
  ·exact farN bj (List.mem_of_getElem? hj) g hgj bi (List.mem_of_getElem? hi) hg
  ·exact h.apart (A.length+(i-new.length)) (A.length+(j-new.length)) g bi bj ae (by rw[List.getElem?_append_right ae,Nat.add_sub_cancel_left];exact hi) (by rw[List.getElem?_append_right ae,Nat.add_sub_cancel_left];exact hj) ho hg hgj
 ·rcases List.mem_append.1 hb with hb|hb
  ·obtain⟨a1,a2,a3⟩:=h'.grp b hb hb0 T hT he p hp;refine⟨a1,fun ho=>hle _ (a2 ho),fun c hc ho hg=>?_⟩
   rcases List.mem_append.1 hc with hc|hc
   ·exact a3 c hc ho hg
   ·rcases a2 ((hn b hb).resolve_right fun⟨_,_,_,h1⟩=>by rw[hb0] at h1;cases h1) with h1|h1
    ·have h1:w.heap.size<=p.1:=h1;have:=h.ltG (List.mem_append_right _ hc) hg;omega
    ·exact apR c hc _ hg h1
  ·obtain⟨a1,a2,a3⟩:=h.grp b (List.mem_append_right _ hb) hb0 T hT he p hp;have hnS:¬IU A p.1:=fun⟨c,hc,ho,hg⟩=>a3 c (List.mem_append_left _ hc) ho hg
   refine⟨a1.heap (keep p.1 a1.lt hnS),a2,fun c hc ho hg=>?_⟩
   rcases List.mem_append.1 hc with hc|hc
   ·rcases ownN c hc _ hg with h1|h1
    ·have:=a1.lt;omega
    ·exact hnS h1
   ·exact a3 c (List.mem_append_right _ hc) ho hg
def IV:List aJ->List Nat->List aJ->List aJ
 |L,k::ks,b::bs=>IV (L.set k b) ks bs
 |L,_,_=>L
def Aw:List (Option aJ)->List Nat->List aJ->List (Option aJ)
 |M,k::ks,b::bs=>Aw (M.set k (some b)) ks bs
 |M,_,_=>M
def uC:List (Option aJ)->List Nat->List (Option aJ)
 |M,[]=>M
 |M,k::ks=>uC (M.set k none) ks
def qkC(L:List aJ)(ks:List Nat):List aJ:=(uC (L.map some) ks).filterMap id
theorem Un:∀(ks:List Nat) (L bs:List aJ),(IV L ks bs).map some=Aw (L.map some) ks bs
 |[],L,bs=>by simp[IV,Aw]
 |k::ks,L,[]=>by simp[IV,Aw]
 |k::ks,L,b::bs=>by rw[IV,Aw,Un ks,List.map_set]
theorem KQ:∀(ks:List Nat) (M:List (Option aJ)) (bs:List aJ),ks.Nodup->bs.length=ks.length->Aw (uC M ks) ks bs=Aw M ks bs
 |[],M,bs,_,_=>rfl
 |k::ks,M,[],_,h=>by simp at h
 |k::ks,M,b::bs,hn,h=>by
  have hn':=List.nodup_cons.1 hn;rw[uC,Aw,Aw];have e:(uC (M.set k none) ks).set k (some b)=uC (M.set k (some b)) ks:=by
   have key:∀(ks:List Nat) (M:List (Option aJ)) (o:Option aJ),k∉ks->(uC M ks).set k o=uC (M.set k o) ks:=by
    intro ks
    induction ks with
    |nil=>intro M o _;rfl
    |cons j ks ih=>
     intro M o hk;simp only[List.mem_cons,not_or] at hk;rw[uC,uC,ih _ _ hk.2,List.set_comm _ _ (fun e=>hk.1 e.symm)]
   rw[key ks _ _ hn'.1,List.set_set]
  rw[e];exact KQ ks _ bs hn'.2 zI
def KR:∀(M:List (Option aJ)) (k:Nat) (b:aJ),M[k]? =some none->((M.set k (some b)).filterMap id).Perm (b::M.filterMap id)
 |[],k,b,h=>by simp at h
 |o::M,0,b,h=>by
  simp at h;subst h;simp
 |o::M,k+1,b,h=>by
  rw[List.getElem?_cons_succ] at h;have ih:=KR M k b h;cases o with
  |none=>simpa using ih
  |some c=>
   simp only[List.set_cons_succ,List.filterMap_cons,id];exact(ih.cons c).trans (List.Perm.swap _ _ _)
def OY:∀(ks:List Nat) (M:List (Option aJ)) (bs:List aJ),ks.Nodup->(∀k∈ks,M[k]? =some none)->bs.length=ks.length->((Aw M ks bs).filterMap id).Perm (bs++M.filterMap id)
 |[],M,[],_,_,_=>List.Perm.refl _
 |[],M,_::_,_,_,h=>by simp at h
 |k::ks,M,[],_,_,h=>by simp at h
 |k::ks,M,b::bs,hn,hM,h=>by
  have hn':=List.nodup_cons.1 hn;have h1:=OY ks (M.set k (some b)) bs hn'.2 (fun j hj=>by
 have hne:k≠j:=fun e=>hn'.1 (e▸hj)
 rw[List.getElem?_set_ne hne];exact hM j (by simp[hj])) (by simpa using h)
  rw[Aw];refine h1.trans ?_;refine((KR M k b (hM k bI)).append_left bs).trans ?_;exact List.perm_middle
def qiE:∀(ks:List Nat) (M:List (Option aJ)),(∀k∈ks,k<M.length)->∀k∈ks,(uC M ks)[k]? =some none:=by
 intro ks
 induction ks with
 |nil=>intro M _ k hk;cases hk
 |cons j ks ih=>
  intro M hl k hk;rw[uC]
  by_cases hm:k∈ks
  ·exact ih _ (fun i hi=>by rw[List.length_set];exact hl i (by simp[hi])) k hm
  ·have hkj:k=j:=by rcases List.mem_cons.1 hk with h|h;exact h;exact absurd h hm
   subst hkj;have key:∀(ks:List Nat) (M:List (Option aJ)),k∉ks->(uC M ks)[k]? =M[k]? :=by
    intro ks
    induction ks with
    |nil=>intro M _;rfl
    |cons i ks ih2=>
     intro M hk;simp only[List.mem_cons,not_or] at hk;rw[uC,ih2 _ hk.2,List.getElem?_set_ne (fun e=>hk.1 e.symm)]
   rw[key ks _ hm,List.getElem?_set_self (hl k bI)]
theorem Uo:∀(L:List aJ),(L.map some).filterMap id=L
 |[]=>rfl
 |a::L=>bI
def OZ{L:List aJ}{ks:List Nat}{bs:List aJ}(hn:ks.Nodup)(hl:∀k∈ks,k<L.length)(h:bs.length=ks.length):(IV L ks bs).Perm (bs++qkC L ks):=by
 have h1:=OY ks (uC (L.map some) ks) bs hn (qiE ks _ (fun k hk=>by rw[List.length_map];exact hl k hk)) h;rw[KQ ks _ bs hn h,<-Un,Uo] at h1;exact h1
theorem O0:∀{ks:List Nat} {L L0:List aJ},ks.map (fun k=>L[k]?)=L0.map some->IV L ks L0=L
 |[],L,L0,h=>by cases L0<;>simp[IV]
 |k::ks,L,[],h=>by simp at h
 |k::ks,L,b::L0,h=>by
  simp only[List.map_cons,List.cons.injEq] at h;have e:L.set k b=L:=by
   obtain⟨hl,h2⟩:=List.getElem?_eq_some_iff.1 h.1;rw[<-h2];exact List.set_getElem_self hl
  rw[IV,e];exact O0 h.2
def setG:List aJ->List Nat->List aJ->List aJ
 |L,k::ks,b::bs=>setG (L.set k b) ks bs
 |L,[],new=>L++new
 |L,_::_,[]=>L
theorem Za:∀(ks:List Nat) (L bs:List aJ),ks.length<=bs.length->setG L ks bs=IV L ks (bs.take ks.length)++bs.drop ks.length
 |[],L,bs,_=>by simp[setG,IV]
 |k::ks,L,[],h=>by simp at h
 |k::ks,L,b::bs,h=>by
  rw[setG,Za ks _ _ zI];simp[IV]
def qbj{L:List aJ}{ks:List Nat}{bs:List aJ}(hn:ks.Nodup)(hl:∀k∈ks,k<L.length)(h:ks.length<=bs.length):(setG L ks bs).Perm (bs++qkC L ks):=by
 rw[Za _ _ _ h];have h1:=OZ (L:=L) (bs:=bs.take ks.length) hn hl (by rw[List.length_take];omega);refine(h1.append_right _).trans ?_;rw[List.append_assoc];refine(List.perm_append_comm.append_left _).trans ?_;rw[<-List.append_assoc,List.take_append_drop]
def QH{A L:List aJ}(h:(L.all fun b=>b.own)=true):∀b∈L,b.own=true∨∃a∈A,a.base=b.base∧b.base.isSome=true:=fun b hb=> .inl (List.all_eq_true.1 h b hb)
def KT{L A C:List aJ}(ks is:List Nat)(hn:ks.Nodup)(hk:ks.map (fun k=>L[k]?)=A.map some)
 (hA:(A.all fun b=>b.own&&(Nat.blt b.e dn||b.base.isSome))=true)(hp:jq L (is.map some) C)(hC:(C.all fun b=> !b.own)=true)(hap:lL ((ks++is).map some) ((A++C).map (·.own))=true)
 {B:Bs}{w:World}(h:bg B L w):∃B':Bs,B'.D=[]∧bg B' (A++C) w∧∀(new:List aJ) (w':World),Nat.ble ks.length new.length=true->(∀b∈new,b.own=true∨∃a∈A,a.base=b.base∧b.base.isSome=true)->bg B' new w'->bg B (setG L ks new) w':=by
 have hl:∀k∈ks,k<L.length:=fun k hk'=>by
  obtain⟨i,hi⟩:=List.mem_iff_getElem?.1 hk';have h1:(ks.map fun k=>L[k]?)[i]? =some L[k]? :=by rw[List.getElem?_map,hi];rfl
  rw[hk,List.getElem?_map] at h1;obtain⟨b,_,hb⟩:=Option.map_eq_some_iff.1 h1;exact(List.getElem?_eq_some_iff.1 hb.symm).1
 have hlen0:A.length=ks.length:=(by have:=congrArg List.length hk;simpa using this.symm);have pA:∀(ks:List Nat) (A:List aJ),ks.map (fun k=>L[k]?)=A.map some->jq L (ks.map some) A:=by
  intro ks
  induction ks with
  |nil=>intro A h;cases A with
   |nil=>exact trivial
   |cons=>simp at h
  |cons k ks ih=>intro A h;cases A with
   |nil=>simp at h
   |cons a A=>
    simp only[List.map_cons,List.cons.injEq] at h;exact⟨⟨a,h.1,a.le_refl⟩,ih A h.2⟩
 have pAC:∀(ks:List Nat) (A:List aJ),jq L (ks.map some) A->jq L ((ks++is).map some) (A++C):=by
  intro ks
  induction ks with
  |nil=>intro A h;cases A with
   |nil=>simpa using hp
   |cons=>exact h.elim
  |cons k ks ih=>intro A h;cases A with
   |nil=>exact h.elim
   |cons a A=>exact⟨h.1,ih A h.2⟩
 have plen:∀{is:List Nat} {C:List aJ},jq L (is.map some) C->is.length=C.length:=by
  intro is
  induction is with
  |nil=>intro C hp;cases C with
   |nil=>rfl
   |cons c C=>exact hp.elim
  |cons k is ih=>intro C hp;cases C with
   |nil=>exact hp.elim
   |cons c C=>simp[ih hp.2]
 have h1:=h.picks ((ks++is).map some) (pAC ks A (pA ks A hk)) (by simp[hlen0,plen hp]) hap;have hO:((A++C).all fun b=>Nat.blt b.e dn||(!b.own||b.base.isSome))=true:=by
  rw[List.all_append,Bool.and_eq_true]
  constructor
  ·refine List.all_eq_true.2 fun b hb=>?_
   have:=List.all_eq_true.1 hA b hb;simp only[Bool.and_eq_true,Bool.or_eq_true] at this;simp only[Bool.or_eq_true];exact this.2.imp id .inr
  ·refine List.all_eq_true.2 fun b hb=>?_
   have:=List.all_eq_true.1 hC b hb;simp at this;simp[this]
 have h2:=h1.rebase hO;have hSA:IU (A++C)=IU A:=by
  funext g
  refine propext ⟨fun⟨b,hb,ho,hg⟩=>?_,fun⟨b,hb,ho,hg⟩=>⟨b,List.mem_append_left _ hb,ho,hg⟩⟩
  rcases List.mem_append.1 hb with hb|hb
  ·exact⟨b,hb,ho,hg⟩
  ·have:=List.all_eq_true.1 hC b hb;rw[ho] at this;cases this
 rw[hSA] at h2;have hp0:=OZ (L:=L) hn hl hlen0;rw[O0 hk] at hp0;have hL:=h.perm hp0;refine⟨⟨w,IU A,[]⟩,rfl,h2,fun new w' hlen hown hx=>?_⟩
 have h3:=hL.joinG hx (fun b hb=>by have:=List.all_eq_true.1 hA b hb;simp at this;exact this.1) hown;exact h3.perm (qbj hn hl (Nat.le_of_ble_eq_true hlen)).symm
theorem Dc.at{P:Program}{f:Nat}{L A C:List aJ}{args:List Value}{X:Type}{res:X->Value}{L1:X->List aJ}(hc:Dc P f (A++C) args X res L1)(ks is:List Nat)(hn:ks.Nodup)(hk:ks.map (fun k=>L[k]?)=A.map some)
 (hA:(A.all fun b=>b.own&&(Nat.blt b.e dn||b.base.isSome))=true)(hp:jq L (is.map some) C)(hC:(C.all fun b=> !b.own)=true)(hap:lL ((ks++is).map some) ((A++C).map (·.own))=true)(hlen:∀x,Nat.ble ks.length (L1 x).length=true)(hown:∀x,∀b∈L1 x,b.own=true∨∃a∈A,a.base=b.base∧b.base.isSome=true)
 {B:Bs}{w:World}(h:bg B L w):Calls P f args.toArray w fun e w'=>∃x,e= .returned (res x)∧bg B (setG L ks (L1 x)) w':=by
 obtain⟨B',hD,h2,hb⟩:=KT ks is hn hk hA hp hC hap h;refine(hc.2 B' w hD h2).mono ?_;rintro e w' ⟨x,rfl,hx⟩;exact⟨x,rfl,hb _ _ (hlen x) (hown x) hx⟩
section
variable{P:Program}{bl:List Nat}{ops:Array Oper}{K:St->Prop}{rest:List Oper}{nt:Nat}{t:List (Nat×Value)}{L:List aJ}{d:Nat}{ty:TypeId}{pos:String}{af:Array Edge}{g:Option (Nat×Bool)}{x y:Operand}
def qd1{f:Nat}{args:List Operand}{ts:Array TypeId}{dst:Option Nat}(vs:List Value){A C:List aJ}{X:Type}{res:X->Value}{L1:X->List aJ}(ks is:List Nat)(mk:X->List aJ)(hM:Jk bl=true)(hd:(match dst with|some d=>Nat.blt d nt|none=>true)=true)
 (hg:az ops ⟨dst,.call {callee:= .value (.func f),args:=args.toArray,argTypes:=ts},ty,pos,af,g⟩ t=some true)
 (hv:args.map (ev t)=vs.map some)(hc:Dc P f (A++C) vs X res L1)(hn:ks.Nodup)(hk:ks.map (fun k=>L[k]?)=A.map some)(hA:(A.all fun b=>b.own&&(Nat.blt b.e dn||b.base.isSome))=true)(hp:jq L (is.map some) C)(hC:(C.all fun b=> !b.own)=true)(hap:lL ((ks++is).map some) ((A++C).map (·.own))=true)
 (hlen:∀x,Nat.ble ks.length (L1 x).length=true)(hown:∀x,∀b∈L1 x,b.own=true∨∃a∈A,a.base=b.base∧b.base.isSome=true)(hL:∀x,setG L ks (L1 x)=mk x)
 (h:∀x,aY P bl ops rest (({nt:=nt,t:=t,L:=mk x}:St).put dst (res x)) K):
 aY P bl ops (⟨dst,.call {callee:= .value (.func f),args:=args.toArray,argTypes:=ts},ty,pos,af,g⟩::rest) ⟨nt,t,L⟩ K:=
 qcH hd hg hM (X:=X) (nx:=fun x=>({nt:=nt,t:=t,L:=mk x}:St).put dst (res x)) (fun hd' B a w hr=>by
 unfold Oper.wp;rw[qJ hc.1 a rfl rfl (vs:=vs.toArray) EL w];refine(hc.at ks is hn hk hA hp hC hap hlen hown hr.mem).mono ?_;rintro e w' ⟨x,rfl,hw⟩;refine⟨x,?_⟩;rw[hL] at hw;exact hr.put hd' hw) h
end
end Go.Via
namespace Go.Via
variable[Mo]
open Go Go.RowKit
def WI(l:List Oper):(List.range l.length).map (fun i=>l.toArray.getD i default)=l:=by
 apply List.ext_getElem
 ·simp
 ·intro i h1 h2;simp at h1;simp[h1]
def xX{P:Program}{B:Bs}{s:St}{Q:Exit->Act->World->Prop}{id:Nat}{l:List Oper}(bl:List Nat)(hm:P.follows .mixedOrders=true)(hc:vY bl l.toArray (List.range l.length)=true)(hf:JP bl l.toArray s=true)
 (h:aY P bl l.toArray l s (fun s'=>At B s' (Q .normal))):At B s ((Code.region id l.toArray true).wp P Q):=TC bl _ hm hc (WI l) hf h
def LdG(P:Program)(L:List aJ)(T g off:Nat)(k:Value->Prop):Prop:=∃(j:Nat) (b:aJ) (i:TI) (u v:Value),L[j]? =some b∧b.base=some g∧dO P T i=true∧(b.cs.drop off).take i.size=[u]∧i.size=1∧(bif i.agg then some (Value.agg #[u]) else some u)=some v∧k v
section
variable{P:Program}{bl:List Nat}{ops:Array Oper}{K:St->Prop}{rest:List Oper}{nt:Nat}{t:List (Nat×Value)}{L:List aJ}{d:Nat}{ty:TypeId}{pos:String}{af:Array Edge}{g:Option (Nat×Bool)}{x y:Operand}
def qra{T gg off:Nat}(hd:Nat.blt d nt=true)(hg:az ops ⟨some d,.load T x,ty,pos,af,g⟩ t=some true)(hx:ev t x=some (.pointer (some ⟨gg,off,none⟩)))(h:LdG P (blank bl L) T gg off (fun v=>aY P bl ops rest ⟨nt,(d,v)::t,L⟩ K)):
 aY P bl ops (⟨some d,.load T x,ty,pos,af,g⟩::rest) ⟨nt,t,L⟩ K:=by
 obtain⟨j,b,i,u,v,h1,h2,h3,h4,h5,h6,h7⟩:=h;exact aG j off [u] hd hg h1 (by rw[hx];unfold aJ.at;rw[h2];rfl) h3 h4 h5.symm (by rw[h5];rfl) h6 h7
def IW{T gg off:Nat}{k:Value->Prop}{b:aJ}{i:TI}{u v:Value}(j:Nat)(h1:L[j]? =some b)(h2:b.base=some gg)(h3:dO P T i=true)(h4:(b.cs.drop off).take i.size=[u])(h5:i.size=1)(h6:(bif i.agg then some (Value.agg #[u]) else some u)=some v)(h7:k v):LdG P L T gg off k:=
 ⟨j,b,i,u,v,h1,h2,h3,h4,h5,h6,h7⟩
def fA{T:Nat}{j gg off fo fs:Nat}{i:TI}(hd:Nat.blt d nt=true)(hg:az ops ⟨some d,.fieldAddr T x j,ty,pos,af,g⟩ t=some true)(hx:ev t x=some (.pointer (some ⟨gg,off,none⟩)))(hi:dO P T i=true)
 (hf:i.flds[j]? =some (fo,fs+1)){off':Nat}(ho:off+fo=off')(h:aY P bl ops rest ⟨nt,(d,.pointer (some ⟨gg,off',none⟩))::t,L⟩ K):
 aY P bl ops (⟨some d,.fieldAddr T x j,ty,pos,af,g⟩::rest) ⟨nt,t,L⟩ K:=by
 subst ho;refine fD hd hg rfl (v:= .pointer (some ⟨gg,off+fo,none⟩)) (fun B a w hr=>?_) h;have h2:=hr.ev (x:=x) (v:= .pointer (some ⟨gg,off,none⟩)) hx;obtain⟨fs',f,h3,h4,h5,h6⟩:=qcA hi hf;simp only at h5 h6;have hsz:(sizeOf f.type).run P w= .ok (fs+1) w:=by
  cases hq:P.info? f.type with
  |none=>rw[hq] at h6;simp at h6
  |some inf=>rw[hq] at h6;simp at h6;simp[sizeOf,typeInfo,hq,h6]
 simp[execOp,h2,Instr.fieldAt,run_underlying h3,h4,Instr.sureAddr,fieldPlace,hsz,jR,h5]
end
def A1{P Q:Prop}(q:Q)(h:Q->P:=by
 intro q
 first
  |with_reducible exact Qj q
  |with_reducible exact qoA q
  |with_reducible exact VO q
  |with_reducible exact qaA q
  |with_reducible exact qlX q
  |with_reducible exact qhs q
  |with_reducible exact qcG q
  |with_reducible exact qht q
  |with_reducible exact qoF q
  |with_reducible exact qoB q
  |with_reducible exact qoC q
  |with_reducible exact qoD q
  |with_reducible exact qoE q
  |(with_reducible refine qcF ?_ q);rfl
  |(with_reducible refine qcE ?_ q);rfl
  |exact ql2 rfl rfl rfl q
  |exact JU rfl rfl rfl q
  |exact qqR rfl rfl rfl q
  |exact qcM rfl rfl rfl rfl rfl q
  |exact qhx rfl rfl rfl rfl q
  |exact qhw rfl rfl rfl rfl q
  |exact VP rfl rfl rfl q
  |exact qoy rfl rfl rfl q
  |exact qcN rfl rfl rfl rfl q
  |exact qcO rfl rfl rfl rfl q
  |(refine qra rfl rfl rfl ?_;first|exact IW 0 rfl rfl (vT _) rfl rfl rfl q|exact IW 1 rfl rfl (vT _) rfl rfl rfl q|exact IW 2 rfl rfl (vT _) rfl rfl rfl q|exact IW 3 rfl rfl (vT _) rfl rfl rfl q|exact IW 4 rfl rfl (vT _) rfl rfl rfl q|exact IW 5 rfl rfl (vT _) rfl rfl rfl q|exact IW 6 rfl rfl (vT _) rfl rfl rfl q|exact IW 7 rfl rfl (vT _) rfl rfl rfl q|exact IW 8 rfl rfl (vT _) rfl rfl rfl q|exact IW 9 rfl rfl (vT _) rfl rfl rfl q|exact IW 10 rfl rfl (vT _) rfl rfl rfl q|exact IW 11 rfl rfl (vT _) rfl rfl rfl q)
  |exact fA rfl rfl rfl (vT _) rfl rfl q
  |exact We rfl rfl rfl q
  |exact GK (vs:=[_,_]) rfl rfl rfl rfl q
  |exact GK (vs:=[_,_,_]) rfl rfl rfl rfl q
  |exact GK (vs:=[_,_,_,_]) rfl rfl rfl rfl q
  |exact qmc (uA _) rfl rfl rfl q
  |exact qmy (uA _) rfl rfl rfl q
  |exact qoz rfl (uT _) rfl rfl q):P:=h q
def A2{P Q:Prop}(q:Q)(h:Q->P:=by intro q;refine A1 ?_;exact A1 q):P:=h q
def A3{P Q:Prop}(q:Q)(h:Q->P:=by intro q;refine A1 ?_;exact A2 q):P:=h q
def A4{P Q:Prop}(q:Q)(h:Q->P:=by intro q;refine A2 ?_;exact A2 q):P:=h q
def A5{P Q:Prop}(q:Q)(h:Q->P:=by intro q;refine A2 ?_;exact A3 q):P:=h q
def A6{P Q:Prop}(q:Q)(h:Q->P:=by intro q;refine A3 ?_;exact A3 q):P:=h q
def A7{P Q:Prop}(q:Q)(h:Q->P:=by intro q;refine A3 ?_;exact A4 q):P:=h q
def A8{P Q:Prop}(q:Q)(h:Q->P:=by intro q;refine A4 ?_;exact A4 q):P:=h q
def A9{P Q:Prop}(q:Q)(h:Q->P:=by intro q;refine A4 ?_;exact A5 q):P:=h q
def lD{P Q:Prop}(q:Q)(h:Q->P:=by intro q;refine A5 ?_;exact A5 q):P:=h q
def oJ{P Q:Prop}(q:Q)(h:Q->P:=by intro q;refine A5 ?_;exact A6 q):P:=h q
def nT{P Q:Prop}(q:Q)(h:Q->P:=by intro q;refine A6 ?_;exact A6 q):P:=h q
def Gw{P Q:Prop}(q:Q)(h:Q->P:=by intro q;refine A6 ?_;exact A7 q):P:=h q
def Ew{P Q:Prop}(q:Q)(h:Q->P:=by intro q;refine A7 ?_;exact A7 q):P:=h q
def D7{P Q:Prop}(q:Q)(h:Q->P:=by intro q;refine A7 ?_;exact A8 q):P:=h q
def SG{P Q:Prop}(q:Q)(h:Q->P:=by intro q;refine A8 ?_;exact A8 q):P:=h q
def QI{P Q:Prop}(q:Q)(h:Q->P:=by intro q;refine A8 ?_;exact A9 q):P:=h q
def A18{P Q:Prop}(q:Q)(h:Q->P:=by intro q;refine A9 ?_;exact A9 q):P:=h q
def A19{P Q:Prop}(q:Q)(h:Q->P:=by intro q;refine A9 ?_;exact lD q):P:=h q
def A20{P Q:Prop}(q:Q)(h:Q->P:=by intro q;refine lD ?_;exact lD q):P:=h q
def A21{P Q:Prop}(q:Q)(h:Q->P:=by intro q;refine lD ?_;exact oJ q):P:=h q
def A22{P Q:Prop}(q:Q)(h:Q->P:=by intro q;refine oJ ?_;exact oJ q):P:=h q
def A23{P Q:Prop}(q:Q)(h:Q->P:=by intro q;refine oJ ?_;exact nT q):P:=h q
def A24{P Q:Prop}(q:Q)(h:Q->P:=by intro q;refine nT ?_;exact nT q):P:=h q
def A25{P Q:Prop}(q:Q)(h:Q->P:=by intro q;refine nT ?_;exact Gw q):P:=h q
def A26{P Q:Prop}(q:Q)(h:Q->P:=by intro q;refine Gw ?_;exact Gw q):P:=h q
def A29{P Q:Prop}(q:Q)(h:Q->P:=by intro q;refine Ew ?_;exact D7 q):P:=h q
def A30{P Q:Prop}(q:Q)(h:Q->P:=by intro q;refine D7 ?_;exact D7 q):P:=h q
def A38{P Q:Prop}(q:Q)(h:Q->P:=by intro q;refine A19 ?_;exact A19 q):P:=h q
def A51{P Q:Prop}(q:Q)(h:Q->P:=by intro q;refine A25 ?_;exact A26 q):P:=h q
section
variable{P:Program}{bl:List Nat}{ops:Array Oper}{K:St->Prop}{rest:List Oper}{nt:Nat}{t:List (Nat×Value)}{L:List aJ}{d:Nat}{ty:TypeId}{pos:String}{af:Array Edge}{g:Option (Nat×Bool)}{x y:Operand}
def Ar{op:BinOp}{T U:Nat}{k:IntKind}{m n:Int}(r:Int)(h:aY P bl ops rest ⟨nt,(d,.int k r)::t,L⟩ K)(hd:Nat.blt d nt=true:=by rfl)(hg:az ops ⟨some d,.binOp op T x y U,ty,pos,af,g⟩ t=some true:=by rfl)(hx:ev t x=some (.int k m):=by rfl)(hy:ev t y=some (.int k n):=by rfl)
 (hr:(match op with| .add=>some (k.wrap (m+n))| .sub=>some (k.wrap (m-n))| .mul=>some (k.wrap (m*n))|_=>none)=some r:=by first|exact congrArg some (wi ae ae ae)|exact congrArg some (c64 _ rfl ae)):
 aY P bl ops (⟨some d,.binOp op T x y U,ty,pos,af,g⟩::rest) ⟨nt,t,L⟩ K:=Yo hd hg hx hy hr h
def Ix{T e:Nat}{k:IntKind}{i:Int}{b:aJ}{off len cap:Nat}{inf:TI}(kk off':Nat)(h:aY P bl ops rest ⟨nt,(d,b.at off')::t,L⟩ K)(hT:P.underlying T=some (.slice e):=by exact uA _)(hinf:dO P e inf=true:=by exact vT _)(hd:Nat.blt d nt=true:=by rfl)(hg:az ops ⟨some d,.indexAddr T x y,ty,pos,af,g⟩ t=some true:=by rfl)
 (hk:(blank bl L)[kk]? =some b:=by rfl)(hx:ev t x=some (ay b.base off len cap):=by rfl)(hy:ev t y=some (.int k i):=by rfl)(h0:0<=i:=by omega)(h1:i<len:=by omega)
 (hb:b.cs≠[]:=by first|exact List.cons_ne_nil _ _|exact CZ oH|exact CZ ae|exact tabC_ne ax|exact SB_ne ae|exact frmC_ne ax|exact(fun e=>by have h8:=hR.1;have h9:=congrArg List.length e;rw[O1] at h9;simp only[List.length_nil] at h9;first|omega|(rw[List.length_set] at h9;omega))|exact(fun e=>by have h9:=congrArg List.length e;rw[O1] at h9;simp only[List.length_nil] at h9;first|omega|(rw[List.length_set] at h9;omega)))
 (ho:off+i.toNat*inf.size=off':=by first|(show 0+Int.toNat _*1=_;omega)|(show 0+Int.toNat _*3=_;omega)|(show 0+Int.toNat _*4=_;omega)|(show 0+Int.toNat _*2=_;omega)|(show 0+Int.toNat _*7=_;omega)):aY P bl ops (⟨some d,.indexAddr T x y,ty,pos,af,g⟩::rest) ⟨nt,t,L⟩ K:=
 aI kk off' hT hinf hd hg hk hx hy h0 h1 hb ho h
def Gm{f:Nat}{args:List Operand}{ts:Array TypeId}{dst:Option Nat}{vs:List Value}{AC:List aJ}{X:Type}{res:X->Value}{L1:X->List aJ}(n:Nat)(ks is:List Nat)(mk:X->List aJ)(hc:Dc P f AC vs X res L1)
 (h:∀x,aY P bl ops rest (({nt:=nt,t:=t,L:=mk x}:St).put dst (res x)) K)
 (hM:Jk bl=true:=by rfl)(hd:(match(generalizing:=false) dst with|some d=>Nat.blt d nt|none=>true)=true:=by rfl)
 (hg:az ops ⟨dst,.call {callee:= .value (.func f),args:=args.toArray,argTypes:=ts},ty,pos,af,g⟩ t=some true:=by rfl)
 (hv:args.map (ev t)=vs.map some:=by rfl)(hn:ks.Nodup:=by decide)(hk:ks.map (fun k=>L[k]?)=(AC.take n).map some:=by rfl)(hA:((AC.take n).all fun b=>b.own&&(Nat.blt b.e dn||b.base.isSome))=true:=by rfl)
 (hp:jq L (is.map some) (AC.drop n):=by repeat (first|exact trivial|refine⟨⟨_,rfl,aJ.le_refl _⟩,?_⟩))
 (hC:((AC.drop n).all fun b=> !b.own)=true:=by rfl)(hap:lL ((ks++is).map some) (AC.map (·.own))=true:=by rfl)
 (hlen:∀x,Nat.ble ks.length (L1 x).length=true:=by exact(fun _=>rfl))(hown:∀x,∀b∈L1 x,b.own=true∨∃a∈AC.take n,a.base=b.base∧b.base.isSome=true:=by exact(fun _=>QH rfl))(hL:∀x,setG L ks (L1 x)=mk x:=by exact(fun _=>rfl)):
 aY P bl ops (⟨dst,.call {callee:= .value (.func f),args:=args.toArray,argTypes:=ts},ty,pos,af,g⟩::rest) ⟨nt,t,L⟩ K:=
 qd1 vs (A:=AC.take n) (C:=AC.drop n) ks is mk hM hd hg hv (by rw[List.take_append_drop];exact hc) hn hk hA hp hC (by rw[List.take_append_drop];exact hap) hlen hown hL h
def Pc{f:Nat}{args:List Operand}{ts:Array TypeId}{vs:List Value}{v:Value}(hc:aP P f vs.toArray v)(h:aY P bl ops rest ⟨nt,(d,v)::t,L⟩ K)(hd:Nat.blt d nt=true:=by rfl)(hg:az ops ⟨some d,.call {callee:= .value (.func f),args:=args.toArray,argTypes:=ts},ty,pos,af,g⟩ t=some true:=by rfl)
 (hv:args.map (ev t)=vs.map some:=by rfl):
 aY P bl ops (⟨some d,.call {callee:= .value (.func f),args:=args.toArray,argTypes:=ts},ty,pos,af,g⟩::rest) ⟨nt,t,L⟩ K:=dY vs hd hg hv hc h
def So{T:Nat}{i:TI}{gg e n:Nat}{cs:List Value}{v:Value}(k off:Nat)(L':List aJ)(cs':List Value)(h:aY P bl ops rest ⟨nt,t,L'⟩ K)(hbl:Gv bl=false:=by rfl)(hg:az ops ⟨none,.store T x y,ty,pos,af,g⟩ t=some true:=by rfl)(hk:L[k]? =some ⟨some gg,e,cs,n,true⟩:=by rfl)(hx:ev t x=some (.pointer (some ⟨gg,off,none⟩)):=by rfl)
 (hy:ev t y=some v:=by rfl)(hi:dO P T i=true:=by exact vT _)(hsz:v.cells.size=i.size:=by rfl)(hfit:Nat.ble (off+i.size) cs.length=true:=by rfl)(h1:(v.cells.toList.all fun u=>u.oneCell')=true:=by rfl)(hcs:cs.take off++v.cells.toList++cs.drop (off+i.size)=cs':=by rfl)(hL:L.set k ⟨some gg,e,cs',n,true⟩=L':=by rfl)
 (hpos:Nat.blt 0 i.size=true:=by rfl):aY P bl ops (⟨none,.store T x y,ty,pos,af,g⟩::rest) ⟨nt,t,L⟩ K:=qY hbl k off L' cs' hg hk hx hy hi hsz hfit h1 hcs hL h hpos
def Bo{T:Nat}{v:Value}(cs:List Value)(n:Nat)(mk:Nat->List aJ)(h:∀b,aY P bl ops rest ⟨nt,(d,.pointer (some ⟨b,0,none⟩))::t,mk b⟩ K)(hd:Nat.blt d nt=true:=by rfl)(hg:az ops ⟨some d,.box T x,ty,pos,af,g⟩ t=some true:=by rfl)(hx:ev t x=some v:=by rfl)(hcs:v.cells.toList=cs:=by rfl)(hn:v.cells.size=n:=by rfl)
 (hL:∀b,L++[⟨some b,T,cs,n,true⟩]=mk b:=by exact(fun _=>rfl))(hT:Nat.blt T dn=true:=by rfl):aY P bl ops (⟨some d,.box T x,ty,pos,af,g⟩::rest) ⟨nt,t,L⟩ K:=qkn cs n mk hd hg hx hcs hn hL h hT
def IX{n:Nat}{listed:Array Bool}{s:St}{K:St->Prop}{o:Oper}(i:Nat)(h:aY P [1000000] ops [o] s (fun s'=>yG P ops K n (listed.setIfInBounds i true) s'))(h1:Region.ready .any ops listed=[i]:=by kernel_rfl)(ho:ops[i]? =some o:=by rfl):yG P ops K (n+1) listed s:=
 jg [i] h1 rfl ⟨⟨_,ho,h⟩,trivial⟩
def Tn2{n:Nat}{listed:Array Bool}{s:St}{K:St->Prop}{o o':Oper}(i j:Nat)(h:aY P [1000000] ops [o] s (fun s'=>yG P ops K n (listed.setIfInBounds i true) s'))(h':aY P [1000000] ops [o'] s (fun s'=>yG P ops K n (listed.setIfInBounds j true) s'))
 (h1:Region.ready .any ops listed=[i,j]:=by kernel_rfl)(ho:ops[i]? =some o:=by rfl)(ho':ops[j]? =some o':=by rfl):yG P ops K (n+1) listed s:=
 jg [i,j] h1 rfl ⟨⟨_,ho,h⟩,⟨_,ho',h'⟩,trivial⟩
def Tn3{n:Nat}{listed:Array Bool}{s:St}{K:St->Prop}{o o' u:Oper}(i j k:Nat)(h:aY P [1000000] ops [o] s (fun s'=>yG P ops K n (listed.setIfInBounds i true) s'))(h':aY P [1000000] ops [o'] s (fun s'=>yG P ops K n (listed.setIfInBounds j true) s'))(hu:aY P [1000000] ops [u] s (fun s'=>yG P ops K n (listed.setIfInBounds k true) s'))
 (h1:Region.ready .any ops listed=[i,j,k]:=by kernel_rfl)(ho:ops[i]? =some o:=by rfl)(ho':ops[j]? =some o':=by rfl)(ho2:ops[k]? =some u:=by rfl):yG P ops K (n+1) listed s:=
 jg [i,j,k] h1 rfl ⟨⟨_,ho,h⟩,⟨_,ho',h'⟩,⟨_,ho2,hu⟩,trivial⟩
end
section
variable{P:Program}{B:Bs}{Q:Exit->Act->World->Prop}{nt:Nat}{t:List (Nat×Value)}{L:List aJ}{ι:Type}{c:Code}
abbrev SL:=List (Nat×Value)×List aJ×Nat
def aT{L L':List aJ}(ks:List (Option Nat))(hp:jq L ks L':=by repeat (first|exact trivial|refine⟨⟨_,rfl,aJ.le_refl _⟩,?_⟩))(hl:ks.length=L'.length:=by rfl)(ha:lL ks (L'.map (·.own))=true:=by rfl):dR L L':=aA ks hp hl ha
def bg.pk{B:Bs}{w:World}{L L':List aJ}(h:bg B L w)(ks:List (Option Nat))(hp:jq L ks L':=by repeat (first|exact trivial|refine⟨⟨_,rfl,aJ.le_refl _⟩,?_⟩))(hl:ks.length=L'.length:=by rfl)(ha:lL ks (L'.map (·.own))=true:=by rfl):bg B L' w:=h.picks ks hp hl ha
def dR.auto{L L':List aJ}(h:dR L L':=by
 first
  |exact aA [some 0] ⟨⟨_,rfl,aJ.le_refl _⟩,trivial⟩ rfl rfl
  |exact aA [some 0,some 1] ⟨⟨_,rfl,aJ.le_refl _⟩,⟨_,rfl,aJ.le_refl _⟩,trivial⟩ rfl rfl
  |exact aA [some 0,some 1,some 2] ⟨⟨_,rfl,aJ.le_refl _⟩,⟨_,rfl,aJ.le_refl _⟩,⟨_,rfl,aJ.le_refl _⟩,trivial⟩ rfl rfl
  |exact aA [some 0,some 1,some 2,some 3] ⟨⟨_,rfl,aJ.le_refl _⟩,⟨_,rfl,aJ.le_refl _⟩,⟨_,rfl,aJ.le_refl _⟩,⟨_,rfl,aJ.le_refl _⟩,trivial⟩ rfl rfl
  |exact aA [some 0,some 1,some 2,some 3,some 4] ⟨⟨_,rfl,aJ.le_refl _⟩,⟨_,rfl,aJ.le_refl _⟩,⟨_,rfl,aJ.le_refl _⟩,⟨_,rfl,aJ.le_refl _⟩,⟨_,rfl,aJ.le_refl _⟩,trivial⟩ rfl rfl
  |exact aA [some 0,some 1,some 2,some 3,some 4,some 5] ⟨⟨_,rfl,aJ.le_refl _⟩,⟨_,rfl,aJ.le_refl _⟩,⟨_,rfl,aJ.le_refl _⟩,⟨_,rfl,aJ.le_refl _⟩,⟨_,rfl,aJ.le_refl _⟩,⟨_,rfl,aJ.le_refl _⟩,trivial⟩ rfl rfl
  |exact aA [some 0,some 1,some 2,some 3,some 4,some 5,some 6] ⟨⟨_,rfl,aJ.le_refl _⟩,⟨_,rfl,aJ.le_refl _⟩,⟨_,rfl,aJ.le_refl _⟩,⟨_,rfl,aJ.le_refl _⟩,⟨_,rfl,aJ.le_refl _⟩,⟨_,rfl,aJ.le_refl _⟩,⟨_,rfl,aJ.le_refl _⟩,trivial⟩ rfl rfl
  |exact aA [some 0,some 1,some 2,some 3,some 4,some 5,some 6,some 7] ⟨⟨_,rfl,aJ.le_refl _⟩,⟨_,rfl,aJ.le_refl _⟩,⟨_,rfl,aJ.le_refl _⟩,⟨_,rfl,aJ.le_refl _⟩,⟨_,rfl,aJ.le_refl _⟩,⟨_,rfl,aJ.le_refl _⟩,⟨_,rfl,aJ.le_refl _⟩,⟨_,rfl,aJ.le_refl _⟩,trivial⟩ rfl rfl
  |exact aA [some 0,some 1,some 2,some 3,some 4,some 5,some 6,some 7,some 8] ⟨⟨_,rfl,aJ.le_refl _⟩,⟨_,rfl,aJ.le_refl _⟩,⟨_,rfl,aJ.le_refl _⟩,⟨_,rfl,aJ.le_refl _⟩,⟨_,rfl,aJ.le_refl _⟩,⟨_,rfl,aJ.le_refl _⟩,⟨_,rfl,aJ.le_refl _⟩,⟨_,rfl,aJ.le_refl _⟩,⟨_,rfl,aJ.le_refl _⟩,trivial⟩ rfl rfl):dR L L':=h
def El(S:ι->SL)(i₀:ι)(round:∀i,At B ⟨nt,(S i).1,(S i).2.1⟩ (c.wp P (Exit.then (Nxt B nt (fun i=>(S i).1) (fun i=>(S i).2.1) (fun i=>(S i).2.2) i) Q)))
 (ht:jS t (S i₀).1:=by repeat (first|exact trivial|refine⟨rfl,?_⟩))(hL:dR L (S i₀).2.1:=by exact dR.refl _):At B ⟨nt,t,L⟩ ((Code.loop c).wp P Q):=qme _ _ _ i₀ ht hL round
def Nl{T:ι->List (Nat×Value)}{LL:ι->List aJ}{μ:ι->Nat}{i:ι}(j:ι)(hμ:μ j<μ i:=by first|(simp only[];omega)|(dsimp only;omega))
 (ht:jS t (T j):=by repeat (first|exact trivial|refine⟨rfl,?_⟩))(hL:dR L (LL j):=by exact dR.refl _):At B ⟨nt,t,L⟩ (Nxt B nt T LL μ i):=qoM j hμ ht hL
end
section
variable{P:Program}{f:Nat}{fn:Func}{c:Code}{B:Bs}{w:World}{R:Ending->World->Prop}{L:List aJ}
def cB0(nt:Nat)(hf:P.funcs[f]? =some fn)(hL:bg B L w)(h:At B ⟨nt,[],L⟩ (c.wp P (bodyPost P fn R)))(hb:fn.body=some c:=by rfl)(hnt:fn.ntmps=nt:=by rfl)(hn:Nat.ble 0 fn.ntmps=true:=by rfl)(hD:B.D=[]:=by first|rfl|assumption):Calls P f #[] w R:=
 um (args:=[]) hf hb (Nat.le_of_ble_eq_true hn) hL OX hD
def cB1{v0:Value}(nt:Nat)(hf:P.funcs[f]? =some fn)(hL:bg B L w)(h:At B ⟨nt,[(0,v0)],L⟩ (c.wp P (bodyPost P fn R)))(hb:fn.body=some c:=by rfl)(hnt:fn.ntmps=nt:=by rfl)(hn:Nat.ble 1 fn.ntmps=true:=by rfl)(hD:B.D=[]:=by first|rfl|assumption):Calls P f #[v0] w R:=
 um (args:=[v0]) hf hb (Nat.le_of_ble_eq_true hn) hL OX hD
def cB2{v0 v1:Value}(nt:Nat)(hf:P.funcs[f]? =some fn)(hL:bg B L w)(h:At B ⟨nt,[(0,v0),(1,v1)],L⟩ (c.wp P (bodyPost P fn R)))(hb:fn.body=some c:=by rfl)(hnt:fn.ntmps=nt:=by rfl)(hn:Nat.ble 2 fn.ntmps=true:=by rfl)(hD:B.D=[]:=by first|rfl|assumption):Calls P f #[v0,v1] w R:=
 um (args:=[v0,v1]) hf hb (Nat.le_of_ble_eq_true hn) hL OX hD
def cB3{v0 v1 v2:Value}(nt:Nat)(hf:P.funcs[f]? =some fn)(hL:bg B L w)(h:At B ⟨nt,[(0,v0),(1,v1),(2,v2)],L⟩ (c.wp P (bodyPost P fn R)))(hb:fn.body=some c:=by rfl)(hnt:fn.ntmps=nt:=by rfl)(hn:Nat.ble 3 fn.ntmps=true:=by rfl)(hD:B.D=[]:=by first|rfl|assumption):Calls P f #[v0,v1,v2] w R:=
 um (args:=[v0,v1,v2]) hf hb (Nat.le_of_ble_eq_true hn) hL OX hD
def cB4{v0 v1 v2 v3:Value}(nt:Nat)(hf:P.funcs[f]? =some fn)(hL:bg B L w)(h:At B ⟨nt,[(0,v0),(1,v1),(2,v2),(3,v3)],L⟩ (c.wp P (bodyPost P fn R)))(hb:fn.body=some c:=by rfl)(hnt:fn.ntmps=nt:=by rfl)(hn:Nat.ble 4 fn.ntmps=true:=by rfl)(hD:B.D=[]:=by first|rfl|assumption):Calls P f #[v0,v1,v2,v3] w R:=
 um (args:=[v0,v1,v2,v3]) hf hb (Nat.le_of_ble_eq_true hn) hL OX hD
def cB5{v0 v1 v2 v3 v4:Value}(nt:Nat)(hf:P.funcs[f]? =some fn)(hL:bg B L w)(h:At B ⟨nt,[(0,v0),(1,v1),(2,v2),(3,v3),(4,v4)],L⟩ (c.wp P (bodyPost P fn R)))(hb:fn.body=some c:=by rfl)(hnt:fn.ntmps=nt:=by rfl)(hn:Nat.ble 5 fn.ntmps=true:=by rfl)(hD:B.D=[]:=by first|rfl|assumption):Calls P f #[v0,v1,v2,v3,v4] w R:=
 um (args:=[v0,v1,v2,v3,v4]) hf hb (Nat.le_of_ble_eq_true hn) hL OX hD
end
end Go.Via
namespace Go.Via
variable[Mo]
open Go Go.RowKit
section
variable{P:Program}{bl:List Nat}{ops:Array Oper}{nt:Nat}{t:List (Nat×Value)}{L:List aJ}{B:Bs}{rest:List Oper}{K:St->Prop}{ty:TypeId}{pos:String}{af:Array Edge}{g:Option (Nat×Bool)}{d:Nat}
def Cd{s:St}{Q:Exit->Act->World->Prop}{c:Operand}{x y:Code}{b:Bool}(h1:b=true->At B s (x.wp P Q))(h2:b=false->At B s (y.wp P Q))(hc:ev s.t c=some (.bool b):=by rfl):At B s ((Code.cond c x y).wp P Q):=gQ hc h1 h2
def Rs{X:Act->World->Prop}{l:List Oper}{b:Bool}(d:Nat)(hT:b=true->aY P bl ops l ⟨nt,(d,.bool true)::t,L⟩ (fun s'=>At B s' X))(hF:b=false->aY P bl ops l ⟨nt,(d,.bool false)::t,L⟩ (fun s'=>At B s' X))
 (hx:look t d=some (.bool b):=by rfl):aY P bl ops l ⟨nt,t,L⟩ (fun s'=>At B s' X):=fB d hx hT hF
def Ld{T:Nat}{x:Operand}{i:TI}{b:aJ}{v:Value}(k off:Nat)(vs:List Value)(hi:dO P T i=true)(h:aY P bl ops rest ⟨nt,(d,v)::t,L⟩ K)
 (hd:Nat.blt d nt=true:=by rfl)(hg:az ops ⟨some d,.load T x,ty,pos,af,g⟩ t=some true:=by rfl)(hk:(blank bl L)[k]? =some b:=by rfl)(hx:ev t x=some (b.at off):=by rfl)
 (hvs:(b.cs.drop off).take i.size=vs:=by rfl)(hlen:vs.length=i.size:=by rfl)(hpos:Nat.blt 0 i.size=true:=by rfl)(hv:(bif i.agg then some (.agg vs.toArray) else vs[0]?)=some v:=by rfl):
 aY P bl ops (⟨some d,.load T x,ty,pos,af,g⟩::rest) ⟨nt,t,L⟩ K:=aG k off vs hd hg hk hx hi hvs hlen hpos hv h
def Kr{X:Act->World->Prop}{l:List Oper}{v:Value}(d:Nat)(v':Value)(h:aY P bl ops l ⟨nt,(d,v')::t,L⟩ (fun s'=>At B s' X))(hx:look t d=some v:=by rfl)(hv:v=v':=by rfl):aY P bl ops l ⟨nt,t,L⟩ (fun s'=>At B s' X):=aF d v' hx hv h
def E1{fn:Func}{R:Ending->World->Prop}{s:St}{d:Nat}{v:Value}(hR:∀w,bg B s.L w->R (.returned v) w)(hfn:fn.results= #[.tmp d]:=by rfl)(h:look s.t d=some v:=by rfl)(hD:B.D=[]:=by first|rfl|assumption):At B s (bodyPost P fn R .ret):=
 aK hfn (au h) hR hD
def eB{a b:Bool}(h:a=b):Ending.returned (.bool a)=Ending.returned (.bool b):=by rw[h]
end
end Go.Via
namespace Go.Via
variable[Mo]
open Go Go.RowKit
def qd2(P:Program)(f:Nat)(L0:List aJ)(args:List Value)(X:Type)(res:X->Value)(L1:X->List aJ):Prop:=
 iR P f=true∧∀(B:Bs) (w:World),B.D=[]->bg B L0 w->CallsD P f args.toArray .returning w fun e u' w'=>u'= .returning∧∃x,e= .returned (res x)∧bg B (L1 x) w'
theorem qd2.at{P:Program}{f:Nat}{L A C:List aJ}{args:List Value}{X:Type}{res:X->Value}{L1:X->List aJ}(hc:qd2 P f (A++C) args X res L1)(ks is:List Nat)(hn:ks.Nodup)(hk:ks.map (fun k=>L[k]?)=A.map some)
 (hA:(A.all fun b=>b.own&&(Nat.blt b.e dn||b.base.isSome))=true)(hp:jq L (is.map some) C)(hC:(C.all fun b=> !b.own)=true)(hap:lL ((ks++is).map some) ((A++C).map (·.own))=true)(hlen:∀x,Nat.ble ks.length (L1 x).length=true)(hown:∀x,∀b∈L1 x,b.own=true∨∃a∈A,a.base=b.base∧b.base.isSome=true)
 {B:Bs}{w:World}(h:bg B L w):CallsD P f args.toArray .returning w fun e u' w'=>u'= .returning∧∃x,e= .returned (res x)∧bg B (setG L ks (L1 x)) w':=by
 obtain⟨B',hD,h2,hb⟩:=KT ks is hn hk hA hp hC hap h;refine(hc.2 B' w hD h2).mono ?_;rintro e u' w' ⟨hu,x,rfl,hx⟩;exact⟨hu,x,rfl,hb _ _ (hlen x) (hown x) hx⟩
end Go.Via
namespace Go.Via
open Go Go.RowKit
inductive Ur where
 |q (r:Rat)
 |raw (b1:Bool) (s1:ByteArray) (b2:Bool) (s2:ByteArray)
def Ur.cells:Ur->List Value
 | .q r=>[.bool (decide (r.num<0)),.string (bP r.num.natAbs),.bool false,.string (dm r)]
 | .raw b1 s1 b2 s2=>[.bool b1,.string s1,.bool b2,.string s2]
inductive XT where
 |mk (op:Int) (name:List UInt8) (num:Ur) (args:List XT)
def XT.op:XT->Int| .mk o _ _ _=>o
def XT.name:XT->List UInt8| .mk _ n _ _=>n
def XT.num:XT->Ur| .mk _ _ n _=>n
def XT.args:XT->List XT| .mk _ _ _ l=>l
def WJ(op:Int)(name:List UInt8)(num:Ur)(a:Option Addr)(n cap:Nat):List Value:= .int .i64 op:: .string (lQ name)::num.cells++[.slice a n cap]
mutual
inductive KU(T:NP):XT->List Value->Prop
 |mk {op:Int} {name:List UInt8} {num:Ur} {args:List XT} {a:Option Addr} {cap:Nat} (h:IY T args a) (hc:args.length<=cap):
  KU T (.mk op name num args) (WJ op name num a args.length cap)
inductive IY(T:NP):List XT->Option Addr->Prop
 |nil {a:Option Addr}:IY T [] a
 |cons {x:XT} {l:List XT} {g off:Nat} {cs c:List Value} (hm:(g,cs)∈T) (hc:(cs.drop off).take 7=c) (hx:KU T x c) (hl:IY T l (some ⟨g,off+7,none⟩)):IY T (x::l) (some ⟨g,off,none⟩)
end
mutual
def KU.mono{T U:NP}(hs:∀p∈T,p∈U):∀{x:XT} {c:List Value},KU T x c->KU U x c
 |_,_,.mk h hc=> .mk (IY.mono hs h) hc
def IY.mono{T U:NP}(hs:∀p∈T,p∈U):∀{l:List XT} {a:Option Addr},IY T l a->IY U l a
 |_,_,.nil=> .nil
 |_,_,.cons hm hc hx hl=> .cons (hs _ hm) hc (KU.mono hs hx) (IY.mono hs hl)
end
def NU{op:Int}{name:List UInt8}{num:Ur}{a:Option Addr}{n cap:Nat}:(WJ op name num a n cap).length=7:=by cases num<;>rfl
def NW{op:Int}{name:List UInt8}{num:Ur}{a:Option Addr}{n cap:Nat}:(WJ op name num a n cap).all Value.simpleT=true:=by cases num<;>rfl
theorem KU.length{T:NP}{x:XT}{c:List Value}(h:KU T x c):c.length=7:=by cases h;exact NU
theorem KU.simple{T:NP}{x:XT}{c:List Value}(h:KU T x c):c.all Value.simpleT=true:=by cases h;exact NW
theorem IY.get{T:NP}:∀{l:List XT} {a:Option Addr} {i:Nat} {x:XT},IY T l a->l[i]? =some x->∃g off cs c,a=some ⟨g,off,none⟩∧(g,cs)∈T∧(cs.drop (off+i*7)).take 7=c∧KU T x c
 |[],_,i,x,_,hx=>by simp at hx
 |y::l,_,0,x,.cons hm hc hy hl,hx=>by
  simp at hx;subst hx;exact⟨_,_,_,_,rfl,hm,by rw[Nat.zero_mul,Nat.add_zero];exact hc,hy⟩
 |y::l,_,i+1,x,.cons hm hc hy hl,hx=>by
  rw[List.getElem?_cons_succ] at hx;obtain⟨g,off,cs,c,h1,h2,h3,h4⟩:=IY.get hl hx;simp only[Option.some.injEq,Addr.mk.injEq,and_true] at h1;obtain⟨rfl,rfl⟩:=h1;exact⟨_,_,cs,c,rfl,h2,by rw[<-h3,Nat.succ_mul];congr 2;omega,h4⟩
mutual
def XT.size:XT->Nat
 | .mk _ _ _ l=>1+XT.sizes l
def XT.sizes:List XT->Nat
 |[]=>0
 |x::l=>XT.size x+XT.sizes l
end
end Go.Via
namespace Go.Proofs.YtaffcpfhedadhaaGreatDoor
open Go Go.RowKit Go.Via
def tiL:List (Nat×TI):=((3,⟨false,1,[]⟩)::(4,⟨false,1,[]⟩)::(5,⟨false,1,[]⟩)::(9,⟨false,1,[]⟩)::(22,⟨false,1,[]⟩)::(24,⟨true,4,[(0,1),(1,1),(2,1),(3,1)]⟩)::(26,⟨true,9,[(0,4),(4,4),(8,1)]⟩)::(32,⟨false,1,[]⟩)::(34,⟨true,2,[(0,1),(1,1)]⟩)::(36,⟨true,4,[(0,2),(2,2)]⟩)::(38,⟨true,9,[(0,4),(4,4),(8,1)]⟩)::(40,⟨true,10,[(0,1),(1,9)]⟩)::(48,⟨true,5,[(0,1),(1,1),(2,1),(3,1),(4,1)]⟩)::(55,⟨true,4,[(0,1),(1,1),(2,1),(3,1)]⟩)::(57,⟨true,6,[(0,1),(1,1),(2,4)]⟩)::(61,⟨true,20,[(0,9),(9,9),(18,1),(19,1)]⟩)::(63,⟨true,38,[(0,20),(20,9),(29,9)]⟩)::(74,⟨false,1,[]⟩)::(86,⟨true,4,[(0,1),(1,1),(2,1),(3,1)]⟩)::(91,⟨true,12,[(0,4),(4,4),(8,4)]⟩)::(93,⟨true,32,[(0,20),(20,12)]⟩)::(98,⟨true,16,[(0,4),(4,4),(8,4),(12,4)]⟩)::(100,⟨true,36,[(0,20),(20,16)]⟩)::(118,⟨false,1,[]⟩)::(120,⟨true,3,[(0,1),(1,1),(2,1)]⟩)::(130,⟨true,3,[]⟩)::(135,⟨true,8,[(0,4),(4,4)]⟩)::(137,⟨true,12,[(0,4),(4,8)]⟩)::(148,⟨false,1,[]⟩)::(151,⟨true,52,[(0,20),(20,16),(36,16)]⟩)::(174,⟨true,12,[]⟩)::(181,⟨true,21,[(0,20),(20,1)]⟩)::(184,⟨true,21,[(0,20),(20,1)]⟩)::(197,⟨true,0,[]⟩)::(201,⟨true,36,[(0,20),(20,16)]⟩)::(209,⟨true,10,[(0,9),(9,1)]⟩)::(221,⟨false,1,[]⟩)::(251,⟨true,2,[]⟩)::(253,⟨true,12,[(0,10),(10,2)]⟩)::(272,⟨false,1,[]⟩)::(286,⟨true,8,[]⟩)::(306,⟨false,1,[]⟩)::(308,⟨true,2,[(0,1),(1,1)]⟩)::(317,⟨true,256,[]⟩)::(328,⟨false,1,[]⟩)::(352,⟨true,2,[(0,1),(1,1)]⟩)::(353,⟨true,32,[]⟩)::[])
def qo4(T:Nat):TI:=(tiL.lookup T).getD ⟨false,0,[]⟩
def tiK:tiL.all (fun p=>dO Tryz.prog p.1 p.2)=true:=ak
def KW{α:Type}:∀{l:List (Nat×α)} {k:Nat} {v:α},l.lookup k=some v->(k,v)∈l
 |(a,b)::l,k,v,h=>by
  rw[List.lookup_cons] at h
  split at h
  ·rename_i e;cases h;rw[eq_of_beq e];exact List.mem_cons_self
  ·exact List.mem_cons_of_mem _ (KW h)
def qo5{α:Type}{p:Nat->α->Bool}{l:List (Nat×α)}{k:Nat}{v:α}(h:l.all (fun x=>p x.1 x.2)=true)(hv:l.lookup k=some v):p k v=true:=List.all_eq_true.1 h _ (KW hv)
def slB(o:Option TypeDesc)(e:Nat):Bool:=match o with
 |some (.slice e')=>e'==e
 |_=>false
def qmO{o:Option TypeDesc}{e:Nat}(h:slB o e=true):o=some (.slice e):=by
 unfold slB at h
 split at h
 ·rw[eq_of_beq h]
 ·cases h
def stB(o:Option TypeDesc):Bool:=match o with
 |some .string=>true
 |_=>false
def qmP{o:Option TypeDesc}(h:stB o=true):o=some .string:=by
 unfold stB at h
 split at h
 ·rfl
 ·cases h
def vT(T:Nat)(h:(tiL.lookup T).isSome=true:=by rfl):dO Tryz.prog T (qo4 T)=true:=by
 obtain⟨v,hv⟩:=Option.isSome_iff_exists.1 h;unfold qo4;rw[hv,Option.getD_some];exact qo5 (p:=fun a b=>dO Tryz.prog a b) tiK hv
def elL:List (Nat×Nat):=((22,86)::(29,100)::(32,63)::(74,61)::(88,93)::(118,3)::(146,151)::(148,201)::(153,38)::(177,181)::(182,184)::(186,32)::(221,5)::(249,253)::(250,74)::(270,272)::[])
def qo6(T:Nat):Nat:=(elL.lookup T).getD 0
def elK:elL.all (fun p=>slB (Tryz.prog.underlying p.1) p.2)=true:=ak
def uA(T:Nat)(h:(elL.lookup T).isSome=true:=by rfl):Tryz.prog.underlying T=some (.slice (qo6 T)):=by
 obtain⟨v,hv⟩:=Option.isSome_iff_exists.1 h;unfold qo6;rw[hv];have:=qo5 (p:=fun a b=>slB (Tryz.prog.underlying a) b) elK hv
 rw[Option.getD_some];exact qmO this
def stL:List Nat:=(9::[])
def stK:stL.all (fun T=>stB (Tryz.prog.underlying T))=true:=ak
def uT(T:Nat)(h:stL.contains T=true:=by rfl):Tryz.prog.underlying T=some .string:=by
 exact qmP (List.all_eq_true.1 stK T (List.contains_iff_mem.1 h))
end Go.Proofs.YtaffcpfhedadhaaGreatDoor
