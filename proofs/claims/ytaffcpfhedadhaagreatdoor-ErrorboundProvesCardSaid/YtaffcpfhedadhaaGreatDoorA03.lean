/-
  Part 3 (chapter 32): lemmas, walks. Each theorem states its own conditions.
-/
import Derived.Laws.Small
import Derived.WideKeyEntry
import Derived.Test.YtaffcpfhedadhaaGreatDoorA02
set_option linter.all false
set_option maxRecDepth 20000
set_option maxHeartbeats 20000000
namespace Go.Via
variable[Mo]
open Go Go.RowKit
def pU(P:Program)(bl:List Nat)(ops:Array Oper)(K:St->Prop):Nat->List Nat->St->Prop
 |0,Ts,s=>Ts=[]∧K s
 |n+1,Ts,s=>BX (fun i=>∃o,ops[i]? =some o∧aY P bl ops [o] s (fun s'=>pU P bl ops K n (Ts.filter (· !=i)) s')) (Ts.filter fun i=> !Ts.any fun j=>waitsF ops ops.size i j)
def BX.mono{Q Q':Nat->Prop}(h:∀i,Q i->Q' i):∀{l:List Nat},BX Q l->BX Q' l
 |[],_=>trivial
 |_::_,hh=>⟨h _ hh.1,BX.mono h hh.2⟩
def pU.kc{P:Program}{bl:List Nat}{ops:Array Oper}{K:St->Prop}(hK:KC K):∀(n:Nat) (Ts:List Nat),KC (pU P bl ops K n Ts)
 |0,Ts=>fun s1 s2 he h=>⟨h.1,hK s1 s2 he h.2⟩
 |n+1,Ts=>fun s1 s2 he h=>BX.mono (fun i ⟨o,h1,h2⟩=>⟨o,h1,aY.kc (pU.kc hK n _) [o] s1 s2 he h2⟩) h
def pU.mono{P:Program}{bl:List Nat}{ops:Array Oper}{K K':St->Prop}(hK:∀s,K s->K' s):∀(n:Nat) (Ts:List Nat) (s:St),pU P bl ops K n Ts s->pU P bl ops K' n Ts s
 |0,Ts,s,h=>⟨h.1,hK s h.2⟩
 |n+1,Ts,s,h=>BX.mono (fun i ⟨o,h1,h2⟩=>⟨o,h1,h2.mono (fun s'=>pU.mono hK n _ s')⟩) h
def aY.append{P:Program}{bl:List Nat}{ops:Array Oper}{K:St->Prop}:∀{l l2:List Oper} {s:St},aY P bl ops l s (fun s'=>aY P bl ops l2 s' K)->aY P bl ops (l++l2) s K
 |[],_,_,h=>h
 |_::l,l2,_,h=>iY.mono (fun _ h1=>aY.append (l:=l) h1) h
structure TZ(ops:Array Oper)(l:List Nat):Prop where
 lt:∀i∈l,i<ops.size
 nw:l.Pairwise (fun p i=>jF ops p i=true)
 self:∀i∈l,jF ops i i=true
 ed:∀i∈l,ru ops i=true
 nodup:l.Nodup
def TZ.sub{ops:Array Oper}{l l':List Nat}(h:TZ ops l)(hs:l'.Sublist l):TZ ops l':=
 ⟨fun i hi=>h.lt i (hs.subset hi),h.nw.sublist hs,fun i hi=>h.self i (hs.subset hi),fun i hi=>h.ed i (hs.subset hi),h.nodup.sublist hs⟩
def LM{P:Program}{bl:List Nat}{ops:Array Oper}{Q:Exit->Act->World->Prop}{K:St->Prop}{B:Bs}(hK:KC K)(hpost:∀s' a' w',K s'->lh B s' a' w'->Q .normal a' w'):
 ∀(n:Nat) (l Ts:List Nat) (listed:Array Bool) (s:St) (a:Act) (w:World),(l++Ts).length=n->TZ ops (l++Ts)->l.Pairwise (fun p i=>sW bl ops p i=true)->(∀p∈l,∀i∈Ts,sW bl ops p i=true)->listed.size=ops.size->
  (∀j,j<ops.size->(listed.getD j true=false↔j∈l++Ts))->OI ops listed->aY P bl ops (l.map fun i=>ops.getD i default) s (pU P bl ops K Ts.length Ts)->lh B s a w->
  wpAny P .any ops Q n listed a w:=by
 intro n
 induction n with
 |zero=>
  intro l Ts listed s a w hn ho hok hokT hsz hl hc hr h;have h0:l++Ts=[]:=List.eq_nil_of_length_eq_zero hn;obtain⟨rfl,rfl⟩:=List.append_eq_nil_iff.1 h0;refine⟨?_,hpost _ _ _ hr.2 h⟩;rcases hh:Region.ready .any ops listed with _|⟨i,r⟩
  ·rfl
  ·exfalso
   obtain⟨h1,o,ho',_⟩:=mem_ready.1 (show i∈Region.ready .any ops listed by rw[hh];simp);have:=(hl i (Array.getElem?_eq_some_iff.1 ho').1).1 h1;simp at this
 |succ n ih=>
  intro l Ts listed s a w hn ho hok hokT hsz hl hc hr h;refine⟨fun h0=>?_,fun i hi=>?_⟩
  ·exfalso
   obtain⟨i0,rest,he⟩:∃i0 rest,l++Ts=i0::rest:=by
    cases hlt:l++Ts with
    |nil=>rw[hlt] at hn;cases hn
    |cons x y=>exact⟨x,y,rfl⟩
   rw[he] at ho hl;have hi0:=ho.lt i0 (by simp);have:i0∈Region.ready .any ops listed:=by
    refine mem_ready.2 ⟨(hl i0 hi0).2 (by simp),ops[i0],Array.getElem?_eq_getElem hi0,fun e hee hb=>?_⟩
    rcases hx:listed.getD e.on false with _|_
    ·exfalso
     have hself:=ho.self i0 (by simp);have hnw:∀j,j∈rest->jF ops i0 j=true:=fun j hj=>(List.pairwise_cons.1 ho.nw).1 j hj
     have key:∀j,jF ops i0 j=true->e.on≠j:=fun j hj e'=>by
      unfold jF at hj;rw[Array.getElem?_eq_getElem hi0] at hj;have:=(Array.all_eq_true'.1 hj) e hee;simp[hb,e'] at this
     rcases Nat.lt_or_ge e.on ops.size with hlt|hge
     ·have hun:listed.getD e.on true=false:=by
       have:e.on<listed.size:=(by rw[hsz];exact hlt);simp[this] at hx ⊢;exact hx
      have:=(hl e.on hlt).1 hun;rcases List.mem_cons.1 this with h1|h1
      ·exact key i0 hself h1
      ·exact key e.on (hnw _ h1) rfl
     ·have hj:=ho.ed i0 (by simp);unfold ru at hj;rw[Array.getElem?_eq_getElem hi0] at hj;have:=(Array.all_eq_true'.1 hj) e hee;simp[hb] at this;omega
    ·rfl
   rw[h0] at this;cases this
  ·obtain⟨hun,oi,hoi,hall⟩:=mem_ready.1 hi;have hilt:=(Array.getElem?_eq_some_iff.1 hoi).1;have hil:i∈l++Ts:=(hl i hilt).1 hun;have hoid:ops.getD i default=oi:=by simp[hoi]
   have hnowait:∀p,p∈l++Ts->waitsF ops ops.size i p=false:=fun p hp=>by
    rcases hw:waitsF ops ops.size i p with _|_
    ·rfl
    ·exfalso
     have h1:=rq hc hw (fun o ho' e he hb=>by rw[hoi] at ho';cases ho';exact hall e he hb);have h2:=(hl p (ho.lt p hp)).2 hp;rw[OJ h2] at h1;cases h1
   have pass:∀p,p∈l++Ts->sW bl ops p i=true->∃op,ops[p]? =some op∧iU op=true∧vU bl oi=true∧jT op=false∧op.apart ops oi=true:=by
    intro p hp hpo;unfold sW at hpo;rw[hnowait p hp,Bool.false_or,hoi] at hpo;cases hop:ops[p]? with
    |none=>rw[hop] at hpo;cases hpo
    |some op=>
     rw[hop] at hpo;simp only[Bool.and_eq_true,Bool.not_eq_true'] at hpo;exact⟨op,rfl,hpo.1.1.1,hpo.1.1.2,hpo.1.2,hpo.2⟩
   have front:∀(pre post:List Nat) (K':St->Prop),KC K'->(∀p∈pre,p∈l++Ts∧sW bl ops p i=true)->aY P bl ops ((pre++i::post).map fun i=>ops.getD i default) s K'->
    iY P bl ops oi s (fun s'=>aY P bl ops ((pre++post).map fun i=>ops.getD i default) s' K'):=by
    intro pre post K' hK' hpre hr1;rw[List.map_append,List.map_cons,hoid] at hr1;rw[List.map_append];cases hpz:pre with
    |nil=>rw[hpz] at hr1;exact hr1
    |cons p0 pre0=>
     obtain⟨hp1,hp2⟩:=hpre p0 (by rw[hpz];simp);obtain⟨op0,_,_,hmi,_,_⟩:=pass p0 hp1 hp2;rw[<-hpz];refine aY.front hK' hmi ?_ hr1;intro q hq;obtain⟨p,hp,rfl⟩:=List.mem_map.1 hq;obtain⟨hp1,hp2⟩:=hpre p hp;obtain⟨op,hop,h1,h2,h3,h4⟩:=pass p hp1 hp2;have:ops.getD p default=op:=by simp[hop]
     rw[this];exact⟨h1,h3,h4⟩
   obtain⟨l',Ts',hsub,hlen,hmem,hsl,hst,hstep⟩:∃l' Ts':List Nat,(l'++Ts').Sublist (l++Ts)∧(l'++Ts').length=n∧(∀j,j∈l'++Ts'↔j∈l++Ts∧j≠i)∧l'.Sublist l∧(∀j∈Ts',j∈Ts)∧
    iY P bl ops oi s (fun s'=>aY P bl ops (l'.map fun i=>ops.getD i default) s' (pU P bl ops K Ts'.length Ts')):=by
    have hnd:=ho.nodup
    by_cases hi1:i∈l
    ·obtain⟨pre,post,rfl⟩:=List.append_of_mem hi1;refine⟨pre++post,Ts,?_,?_,fun j=>?_,List.Sublist.append (List.Sublist.refl _) (List.sublist_cons_self _ _),fun j hj=>hj,?_⟩
     ·exact List.Sublist.append (List.Sublist.append (List.Sublist.refl _) (List.sublist_cons_self _ _)) (List.Sublist.refl _)
     ·simp at hn ⊢;omega
     ·have h1:i∉pre++post++Ts:=by
       intro hm;rw[show pre++i::post++Ts=pre++i::(post++Ts) by simp] at hnd;have h2:=List.nodup_append.1 hnd;rw[List.append_assoc] at hm;rcases List.mem_append.1 hm with h3|h3
       ·exact h2.2.2 i h3 i (by simp) rfl
       ·exact(List.nodup_cons.1 h2.2.1).1 h3
      constructor
      ·intro hj;refine⟨?_,fun e=>h1 (e▸hj)⟩
       simp at hj ⊢;rcases hj with h|h|h<;>simp[h]
      ·rintro⟨hj,hne⟩;simp at hj ⊢;rcases hj with h|h|h|h
       ·simp[h]
       ·exact absurd h hne
       ·simp[h]
       ·simp[h]
     ·exact front pre post _ (pU.kc hK _ _) (fun p hp=>⟨by simp[hp],(List.pairwise_append.1 hok).2.2 p hp i (by simp)⟩) hr
    ·have hi2:i∈Ts:=by
      rcases List.mem_append.1 hil with h1|h1
      ·exact absurd h1 hi1
      ·exact h1
     have hndT:Ts.Nodup:=(List.nodup_append.1 hnd).2.1;obtain⟨pre,post,rfl⟩:=List.append_of_mem hi2;have hnot:i∉pre∧i∉post:=by
      have h2:=List.nodup_append.1 hndT;exact⟨fun h3=>h2.2.2 i h3 i (by simp) rfl,(List.nodup_cons.1 h2.2.1).1⟩
     have hfil:(pre++i::post).filter (· !=i)=pre++post:=by
      rw[List.filter_append,List.filter_cons];simp only[bne_self_eq_false,Bool.false_eq_true,if_false];rw[List.filter_eq_self.2 (fun j hj=>by have:j≠i:=fun e=>hnot.1 (e▸hj);simpa using this),List.filter_eq_self.2 (fun j hj=>by have:j≠i:=fun e=>hnot.2 (e▸hj);simpa using this)]
     refine⟨l,pre++post,?_,?_,fun j=>?_,List.Sublist.refl _,fun j hj=>?_,?_⟩
     ·exact List.Sublist.append (List.Sublist.refl _) (List.Sublist.append (List.Sublist.refl _) (List.sublist_cons_self _ _))
     ·simp at hn ⊢;omega
     ·constructor
      ·intro hj;refine⟨?_,fun e=>?_⟩
       ·simp at hj ⊢;rcases hj with h|h|h<;>simp[h]
       ·subst e;simp at hj;rcases hj with h|h|h
        ·exact hi1 h
        ·exact hnot.1 h
        ·exact hnot.2 h
      ·rintro⟨hj,hne⟩;simp at hj ⊢;rcases hj with h|h|h|h
       ·simp[h]
       ·simp[h]
       ·exact absurd h hne
       ·simp[h]
     ·simp at hj ⊢;rcases hj with h|h<;>simp[h]
     ·have hr2:aY P bl ops ((l++[i]).map fun i=>ops.getD i default) s (pU P bl ops K (pre++post).length (pre++post)):=by
       rw[List.map_append];refine aY.append (hr.mono fun s' hs'=>?_);have hlen:(pre++i::post).length=(pre++post).length+1:=by simp;omega
       rw[hlen] at hs';have hs2:BX _ _:=hs';have hmi:i∈(pre++i::post).filter (fun i'=> !(pre++i::post).any fun j=>waitsF ops ops.size i' j):=by
        refine List.mem_filter.2 ⟨by simp,?_⟩;rw[Bool.not_eq_true',Bool.eq_false_iff];intro h1;obtain⟨j,hj,hw⟩:=List.any_eq_true.1 h1;rw[hnowait j (by simp at hj ⊢;rcases hj with h|h|h<;>simp[h])] at hw;cases hw
       obtain⟨o,ho1,ho2⟩:=hs2.mem i hmi;rw[hoi] at ho1;cases ho1;rw[hfil] at ho2;rw[List.map_singleton,hoid];exact ho2
      have:=front l [] _ (pU.kc hK _ _) (fun p hp=>⟨by simp[hp],hokT p hp i (by simp)⟩) hr2
      simpa using this
   unfold wpOp;rw[hoi];dsimp only;have hS:=iY.sound (K':=wpAny P .any ops Q n (listed.setIfInBounds i true)) (Q:=Q) hstep h (fun s' a' w' hk hrel=>by
 refine ih l' Ts' (listed.setIfInBounds i true) s' a' w' hlen (ho.sub hsub) (hok.sublist hsl) (fun p hp j hj=>hokT p (hsl.subset hp) j (hst j hj)) (by simpa using hsz) ?_ ?_ hk hrel
 ·intro j hj;rw[hmem j]
  by_cases hij:i=j
  ·subst hij;have:i<listed.size:=by rw[hsz];exact hilt
   simp[this]
  ·rw[getD_set_ne true hij,hl j hj];simp[Ne.symm hij]
 ·intro j hj o hoj e he hb
  by_cases hij:i=j
  ·subst hij;rw[hoi] at hoj;cases hoj;exact getD_set_true (hall e he hb)
  ·rw[getD_set_ne false hij] at hj;exact getD_set_true (hc j hj o hoj e he hb))
   split
   ·rename_i hw;rw[if_pos hw] at hS;exact .inl hS
   ·rename_i hw;rw[if_neg hw] at hS;exact hS
def Jl(bl:List Nat)(ops:Array Oper)(perm T:List Nat):Bool:=
 decide ((perm++T).length=ops.size)&&(perm++T).all (fun i=>decide (i<ops.size))&&(List.range ops.size).all (fun i=>(perm++T).contains i)&&
 iZ (sW bl ops) perm&&perm.all (fun p=>T.all fun i=>sW bl ops p i)&&iZ (jF ops) (perm++T)&&(perm++T).all (fun i=>jF ops i i)&&(perm++T).all (fun i=>ru ops i)&&iZ (fun i j=>i !=j) (perm++T)
def XD{P:Program}{bl:List Nat}{id:Nat}{ops:Array Oper}{Q:Exit->Act->World->Prop}{s:St}{B:Bs}{w:World}{a:Act}(perm T:List Nat){l:List Oper}{K:St->Prop}
 (hm:P.follows .mixedOrders=true)(hc:Jl bl ops perm T=true)(hl:perm.map (fun i=>ops.getD i default)=l)(hr:aY P bl ops l s (pU P bl ops K T.length T))
 (hpost:∀s' a' w',K s'->lh B s' a' w'->Q .normal a' w')(h:lh B s a w):(Code.region id ops true).wp P Q a w:=by
 simp only[Jl,Bool.and_eq_true,decide_eq_true_eq] at hc;obtain⟨⟨⟨⟨⟨⟨⟨⟨hlen,hlt⟩,hall⟩,hpo⟩,hpt⟩,hnw⟩,hself⟩,hed⟩,hnd⟩:=hc;have hOrd:TZ ops (perm++T):=⟨fun i hi=>of_decide_eq_true (List.all_eq_true.1 hlt i hi),iE hnw,fun i hi=>List.all_eq_true.1 hself i hi,fun i hi=>List.all_eq_true.1 hed i hi,(iE hnd).imp (fun h=>by simpa using h)⟩
 subst hl;have hK:KC (fun s'=>∃s0,Dj s0 s'∧K s0):=fun s1 s2 he ⟨s0,h0,h1⟩=>⟨s0,h0.trans he,h1⟩
 refine wp_region_any hm ?_;refine LM hK (fun s' a' w' ⟨s0,he,hk⟩ hrel=>hpost s0 a' w' hk (he.symm.rel hrel)) ops.size perm T _ s a _ hlen hOrd (iE hpo) (fun p hp i hi=>List.all_eq_true.1 (List.all_eq_true.1 hpt p hp) i hi) (by simp) ?_ ?_
  (hr.mono (fun s' hs'=>pU.mono (fun s1 h1=>⟨s1,Dj.refl _,h1⟩) _ _ s' hs')) h.drew
 ·intro j hj;have:j∈perm++T:=by
   have:=List.all_eq_true.1 hall j (List.mem_range.2 hj);exact List.contains_iff_mem.1 this
  simp only[this,iff_true];simp[hj]
 ·intro j hj
  exfalso
  rcases Nat.lt_or_ge j ops.size with h1|h1
  ·simp[h1] at hj
  ·simp[h1] at hj
def qP{P:Program}{B:Bs}{Q:Exit->Act->World->Prop}{s:St}{id:Nat}{l l':List Oper}(bl perm T:List Nat)(hm:P.follows .mixedOrders=true)(hc:Jl bl l.toArray perm T=true)(hl:perm.map (fun i=>l.toArray.getD i default)=l')
 (h:aY P bl l.toArray l' s (pU P bl l.toArray (fun s'=>At B s' (Q .normal)) T.length T)):At B s ((Code.region id l.toArray true).wp P Q):=fun a w hr=>
 XD (K:=fun s'=>At B s' (Q .normal)) perm T hm hc hl h (fun s' a' w' h1 h2=>h1 a' w' h2) hr
def aJ{P:Program}{bl:List Nat}{ops:Array Oper}{K:St->Prop}{n:Nat}{Ts:List Nat}{s:St}(l:List Nat)(hl:(Ts.filter fun i=> !Ts.any fun j=>waitsF ops ops.size i j)=l)
 (h:BX (fun i=>∃o,ops[i]? =some o∧aY P bl ops [o] s (fun s'=>pU P bl ops K n (Ts.filter (· !=i)) s')) l):pU P bl ops K (n+1) Ts s:=by
 subst hl;exact h
end Go.Via
namespace Go.Via
def jU{P:Program}{bl:List Nat}{ops:Array Oper}{K:St->Prop}{Ts:List Nat}{s:St}(h:Ts=[])(hk:K s):pU P bl ops K 0 Ts s:=⟨h,hk⟩
end Go.Via
namespace Go.Via
variable[Mo]
open Go Go.RowKit
def FT(P:Program)(f:Nat)(L:List aG)(args:List Value)(X:Type)(res:X->Value)(new:X->List aG):Prop:=
 ja P f=true∧∀w:World,bf w L w->Calls P f args.toArray w fun e w'=>∃x,e= .returned (res x)∧bf w (new x) w'∧∀b∈new x,∀g,b.base=some g->w.heap.size<=g∨∃b0∈L,b0.base=some g
def OU{B:Bs}{w:World}{L:List aG}(h:bf B L w)(k:Nat){b:aG}(hk:L[k]? =some b)(ho:b.own=true):∀g,b.base=some g->B.own g:=fun g hg=>((h.blk k b hk).1 g hg).2 ho
def aG.un(b:aG):aG:={b with own:=false}
def bf.un{B:Bs}{w:World}{L:List aG}(h:bf B L w):bf B (L.map aG.un) w:=h.mono fun k b' hk=>by
 rw[List.getElem?_map,Option.map_eq_some_iff] at hk;obtain⟨b,h1,rfl⟩:=hk;exact⟨b,h1,⟨rfl,rfl,rfl,⟨b.cs.length,by simp[aG.un]⟩,fun h=>by cases h⟩⟩
def FT.mono{P:Program}{f:Nat}{L:List aG}{args:List Value}{X Y:Type}{res:X->Value}{new:X->List aG}{res':Y->Value}{new':Y->List aG}(h:FT P f L args X res new)(m:∀x,∃y,res x=res' y∧new x=new' y):
 FT P f L args Y res' new':=by
 refine⟨h.1,fun w hL=>(h.2 w hL).mono ?_⟩
 rintro e w' ⟨x,rfl,hx,hf⟩;obtain⟨y,h1,h2⟩:=m x;exact⟨y,by rw[h1],by rw[<-h2];exact hx,by rw[<-h2];exact hf⟩
def bf.joinA{B:Bs}{w w':World}{L L0 new:List aG}(h:bf B L w)(h':bf w new w')(hc:∀b0∈L0,∀g,b0.base=some g->∃(k:Nat) (b:aG),L[k]? =some b∧b.base=some g∧b.own=false)
 (hf:∀b∈new,∀g,b.base=some g->w.heap.size<=g∨∃b0∈L0,b0.base=some g)(hng:∀b∈new,b.base=none->b.e<dC):bf B (L++new) w':=by
 have hs:=h.same h'.below;refine⟨hs.bel,fun k b hk=>?_,fun i j g bi bj hij hi hj ho hg hgj=>?_,hs.grp.app (h'.grp.base h.bel.le) (fun b hb hn T hT he p hp c hc' ho hg=>?_) (fun b hb hn T hT he=>absurd (he▸hng b hb hn) (Jc T))⟩
 rotate_left 2
 ·have h1:=(h.grp b hb hn T hT he p hp).1.lt;obtain⟨j,hj⟩:=List.mem_iff_getElem?.1 hc';have h2:=D9 (((h'.blk j c hj).1 _ hg).2 ho);omega
 ·rw[List.getElem?_append] at hk
  split at hk
  ·exact hs.blk k b hk
  ·obtain⟨a1,a2⟩:=h'.blk _ b hk;exact⟨fun g hg=>⟨(a1 g hg).1,fun ho=>h.bel.le _ ((a1 g hg).2 ho)⟩,a2⟩
 ·rw[List.getElem?_append] at hi hj
  split at hi<;>split at hj
  ·exact hs.apart i j g bi bj hij hi hj ho hg hgj
  ·have h1:=h.lt hi hg;rcases hf bj (List.mem_of_getElem? hj) g hgj with h2|⟨b0,h2,h3⟩
   ·omega
   ·obtain⟨k,b,h4,h5,h6⟩:=hc b0 h2 g h3
    by_cases e:i=k
    ·subst e;rw[hi] at h4;cases h4;rw[ho] at h6;cases h6
    ·exact h.apart i k g bi b e hi h4 ho hg h5
  ·have h1:=h.lt hj hgj;have h2:=D9 (((h'.blk _ bi hi).1 g hg).2 ho);omega
  ·exact h'.apart _ _ g bi bj (by omega) hi hj ho hg hgj
def Ua(L:List aG)(k:Nat):Bool:=match L[k]? with
 |some b=> !b.own
 |none=>false
def Jm{L:List aG}:∀{ks:List Nat} {L0:List aG},jr L (ks.map some) L0->ks.all (Ua L)=true->∀b0∈L0,∀g,b0.base=some g->∃(k:Nat) (b:aG),L[k]? =some b∧b.base=some g∧b.own=false
 |[],[],_,_,b0,h,_,_=>by cases h
 |[],_::_,hp,_,_,_,_,_=>hp.elim
 |_::_,[],hp,_,_,_,_,_=>hp.elim
 |k::ks,c::L0,hp,ho,b0,h,g,hg=>by
  rw[List.all_cons,Bool.and_eq_true] at ho;rcases List.mem_cons.1 h with rfl|h
  ·obtain⟨b,h1,h2⟩:=hp.1;have h3:=ho.1;unfold Ua at h3;rw[h1] at h3;exact⟨k,b,h1,by rw[<-h2.1];exact hg,by simpa using h3⟩
  ·exact Jm hp.2 ho.2 b0 h g hg
section
variable{P:Program}{bl:List Nat}{ops:Array Oper}{K:St->Prop}{rest:List Oper}{nt:Nat}{t:List (Nat×Value)}{L:List aG}{d:Nat}{ty:TypeId}{pos:String}{af:Array Edge}{g:Option (Nat×Bool)}{x y:Operand}
def Jn{f:Nat}{args:List Operand}{ts:Array TypeId}(vs:List Value){L0:List aG}{X:Type}{res:X->Value}{new:X->List aG}(ks:List Nat)(hd:Nat.blt d nt=true)(hg:ax ops ⟨some d,.call {callee:= .value (.func f),args:=args.toArray,argTypes:=ts},ty,pos,af,g⟩ t=some true)
 (hv:args.map (ev t)=vs.map some)(hc:FT P f L0 vs X res new)(hp:jr L (ks.map some) L0)(ho:(L0.all fun b=> !b.own)=true)(hn:ks.all (Ua L)=true)
 (h:∀x,aY P bl ops rest ⟨nt,(d,res x)::t,L++new x⟩ K)(hA:IB bl=false:=by rfl)
 (hng:∀x,∀b∈new x,b.base=none->b.e<dC:=by intro x b hb _;(try simp only[List.mem_cons,List.not_mem_nil,or_false] at hb);first|(subst hb;exact Nat.le_of_ble_eq_true rfl)|(rcases hb with rfl|rfl<;>exact Nat.le_of_ble_eq_true rfl)|(rw[List.mem_singleton.1 hb];exact Nat.le_of_ble_eq_true rfl)):
 aY P bl ops (⟨some d,.call {callee:= .value (.func f),args:=args.toArray,argTypes:=ts},ty,pos,af,g⟩::rest) ⟨nt,t,L⟩ K:=
 Ef hd hg rfl (X:=X) (res:=res) (new:=new) (qfz (s:=⟨nt,t,L⟩) rfl hv hc.1 fun B w hL=>(hc.2 w (hL.asArgs ks hp (fun b hb=>by simpa using List.all_eq_true.1 ho b hb))).mono (by
 rintro e w' ⟨x,rfl,hx,hf⟩;exact⟨x,rfl,hL.joinA hx (Jm hp hn) hf (hng x)⟩)) (fun h1=>by rw[hA] at h1;cases h1) fun x=>h x
end
end Go.Via
namespace Go.Via
variable[Mo]
open Go Go.RowKit
def bf.perm{B:Bs}{w:World}{L L':List aG}(hp:List.Perm L L')(h:bf B L w):bf B L' w:=by
 have key:L.Pairwise (fun bi bj=>(bi.own=true∨bj.own=true)->∀g,bi.base=some g->bj.base≠some g):=by
  rw[List.pairwise_iff_getElem];intro i j hi hj hij ho g hg hgj;rcases ho with ho|ho
  ·exact h.apart i j g _ _ (by omega) (List.getElem?_eq_getElem hi) (List.getElem?_eq_getElem hj) ho hg hgj
  ·exact h.apart j i g _ _ (by omega) (List.getElem?_eq_getElem hj) (List.getElem?_eq_getElem hi) ho hgj hg
 have key':=(hp.pairwise_iff (fun {x y} hxy ho g hy hx=>hxy ho.symm g hx hy)).1 key;rw[List.pairwise_iff_getElem] at key';refine⟨h.bel,fun k b hk=>?_,fun i j g bi bj hij hi hj ho hg hgj=>?_,h.grp.mem fun b hb=>hp.symm.subset hb⟩
 ·have hm:=hp.symm.subset (List.mem_of_getElem? hk);obtain⟨m,hm⟩:=List.mem_iff_getElem?.1 hm;exact h.blk m b hm
 ·obtain⟨hi1,rfl⟩:=List.getElem?_eq_some_iff.1 hi;obtain⟨hj1,rfl⟩:=List.getElem?_eq_some_iff.1 hj;rcases Nat.lt_or_gt_of_ne hij with c|c
  ·exact key' i j hi1 hj1 c (.inl ho) g hg hgj
  ·exact key' j i hj1 hi1 c (.inr ho) g hgj hg
def VB(s:St)(dst:Option Nat)(v:Value):(s.put dst v).L=s.L:=by cases dst<;>rfl
structure tZ(s s':St):Prop where
 nt:s.nt=s'.nt
 L:List.Perm s.L s'.L
 look:∀d,look s.t d=look s'.t d
def tZ.rel{s s':St}(h:tZ s s'){B:Bs}{w:World}{a:Act}(r:lh B s' a w):lh B s a w:=
 ⟨r.df,r.size.trans h.nt.symm,fun d v hd=>r.tmp d v (by rw[<-h.look d];exact hd),r.mem.perm h.L.symm⟩
def tZ.refl(s:St):tZ s s:=⟨rfl,List.Perm.refl _,fun _=>rfl⟩
def tZ.symm{s s':St}(h:tZ s s'):tZ s' s:=⟨h.nt.symm,h.L.symm,fun d=>(h.look d).symm⟩
def tZ.trans{s s' s'':St}(h:tZ s s')(k:tZ s' s''):tZ s s'':=⟨h.nt.trans k.nt,h.L.trans k.L,fun d=>(h.look d).trans (k.look d)⟩
def tZ.put{s s':St}(h:tZ s s')(dst:Option Nat)(sv:Value)(new:List aG):tZ (({s with L:=s.L++new}:St).put dst sv) (({s' with L:=s'.L++new}:St).put dst sv):=by
 cases dst with
 |none=>exact⟨h.nt,h.L.append_right _,h.look⟩
 |some d=>
  refine⟨h.nt,h.L.append_right _,fun k=>?_⟩
  by_cases e:d=k
  ·subst e;simp[St.put,fB]
  ·simp[St.put,dA e,h.look k]
def tZ.put0{s s':St}(h:tZ s s')(dst:Option Nat)(sv:Value):tZ (s.put dst sv) (s'.put dst sv):=by
 have:=h.put dst sv []
 simpa using this
def tZ.wanted{s s':St}(h:tZ s s')(ops:Array Oper)(o:Oper):ax ops o s.t=ax ops o s'.t:=by
 unfold ax
 split
 ·rfl
 ·split
  ·rw[h.look]
  ·rfl
def KCP(K:St->Prop):Prop:=∀s s',tZ s s'->K s->K s'
def KCP.kc{K:St->Prop}(h:KCP K):KC K:=fun s s' he=>h s s' ⟨he.nt,he.L▸List.Perm.refl _,he.look⟩
def Jo:∀{bl:List Nat} {L:List aG},FM bl=false->blank bl L=L
 |[],L,_=>rfl
 |k::bl,L,h=>by
  unfold FM at h;rw[List.any_cons,Bool.or_eq_false_iff] at h;unfold blank;rw[h.1];exact Jo (bl:=bl) h.2
def OV{bl:List Nat}{s:St}(h:FM bl=false):s.bk bl=s:=by show St.mk s.nt s.t (blank bl s.L)=s;rw[Jo h]
def iY.congrP{P:Program}{bl:List Nat}{ops:Array Oper}{o:Oper}{s s':St}{K:St->Prop}(hA:IB bl=true)(hS:FM bl=false)(hK:KCP K)(h:tZ s s')(hs:iY P bl ops o s K):iY P bl ops o s' K:=by
 obtain⟨h0,g,hg,hh⟩:=hs;refine⟨by rw[<-h.nt];exact h0,g,by rw[<-h.wanted];exact hg,?_⟩;rcases hh with⟨h1,h2⟩|⟨h1,⟨h2,sv,h3,h4⟩|⟨h2,X,res,new,h3,hF,h4⟩|⟨hm,hA',hm',X,nx,h3,h4⟩|⟨hm,hd,L',h3,h5,h4⟩|⟨hA',e,cs,h3,h4⟩|⟨hC,hbS,X,res,nL,h3,h5,h4⟩⟩
 ·exact .inl ⟨h1,hK _ _ (h.put0 _ _) h2⟩
 ·refine .inr ⟨h1,.inl ⟨h2,sv,⟨fun B a w hr=>?_,fun h5 h6=>by rw[<-GV h.look];exact h3.2 h5 h6⟩,hK _ _ (h.put0 _ _) h4⟩⟩
  have h3:=h3.1;rw[OV hS] at hr h3;exact h3 B a w (h.rel hr)
 ·obtain⟨hF1,hX⟩:=hF hA;refine .inr ⟨h1,.inr (.inl ⟨h2,X,res,new,fun B a w hr=>?_,fun hb=>⟨fun B a w hr=>hF1 B a w (h.rel hr),hX⟩,fun x=>hK _ _ (h.put _ _ _) (h4 x)⟩)⟩
  obtain⟨f,args,r1,r2⟩:=hF1 B a w (h.rel hr);refine⟨f,args,r1,r2.mono ?_⟩;rintro e w' ⟨x,rfl,hx,hown⟩;exact⟨x,rfl,hr.mem.joinF hx hown⟩
 ·exact .inr ⟨h1,.inr (.inr (.inl ⟨hm,hA',hm',X,nx,fun B a w hr=>h3 B a w (h.rel hr),h4⟩))⟩
 ·exact .inr ⟨h1,.inr (.inr (.inr (.inl ⟨hm,hd,L',fun B a w hr=>h3 B a w (h.rel hr),(fun hb=>by rw[hS] at hb;cases hb),hK {s with L:=L'} {s' with L:=L'} ⟨h.nt,List.Perm.refl _,h.look⟩ h4⟩)))⟩
 ·exact .inr ⟨h1,.inr (.inr (.inr (.inr (.inl ⟨hA',e,cs,by rw[<-Je h.look];exact h3,fun g=>hK _ _ (h.put _ _ _) (h4 g)⟩))))⟩
 ·rw[hS] at hbS;cases hbS
def aY.kcP{P:Program}{bl:List Nat}{ops:Array Oper}{K:St->Prop}(hA:IB bl=true)(hS:FM bl=false)(hK:KCP K):∀l:List Oper,KCP (fun s=>aY P bl ops l s K)
 |[]=>hK
 |o::l=>fun _ _ h hs=>iY.congrP hA hS (aY.kcP hA hS hK l) h hs
def VC{o:Oper}(h:iU o=true∨isAl o=true):isSto o=false:=by
 unfold isSto
 split<;>first|rfl|(rename_i heq
                    rcases h with h|h
                    ·unfold iU at h;rw[heq] at h;cases h
                    ·unfold isAl at h;rw[heq] at h;cases h)
def iY.laterA{P:Program}{bl:List Nat}{ops:Array Oper}{p:Oper}{s:St}{K:St->Prop}{dst:Option Nat}{u:Value}{E:List aG}(hA:IB bl=true)(hS:FM bl=false)(hp:iU p=true∨isAl p=true)(hM:IC bl=false)
 (hd:∀d,dst=some d->d<s.nt)(hl:∀d,dst=some d->d∉p.looksAt ops)(hne:∀d,p.dst=some d->dst≠some d)
 (h:iY P bl ops p s (fun s1=>∀s2,tZ (({s1 with L:=s1.L++E}:St).put dst u) s2->K s2)):iY P bl ops p (({s with L:=s.L++E}:St).put dst u) K:=by
 have hns:∀cs b,p.op≠ .select cs b:=fun cs b e=>by
  rcases hp with hp|hp
  ·unfold iU at hp;rw[e] at hp;cases hp
  ·unfold isAl at hp;rw[e] at hp;cases hp
 have hn:(({s with L:=s.L++E}:St).put dst u).nt=s.nt:=by cases dst<;>rfl
 have hLL:(({s with L:=s.L++E}:St).put dst u).L=s.L++E:=by cases dst<;>rfl
 have comm:∀(x:Value) (new:List aG),tZ (({(({s with L:=s.L++new}:St).put p.dst x) with L:=(({s with L:=s.L++new}:St).put p.dst x).L++E}:St).put dst u)
  (({(({s with L:=s.L++E}:St).put dst u) with L:=(({s with L:=s.L++E}:St).put dst u).L++new}:St).put p.dst x):=by
  intro x new;have e1:(({s with L:=s.L++new}:St).put p.dst x).L=s.L++new:=by cases p.dst<;>rfl
  refine⟨?_,?_,?_⟩
  ·cases p.dst<;>cases dst<;>rfl
  ·have a1:=(VB ({(({s with L:=s.L++new}:St).put p.dst x) with L:=(({s with L:=s.L++new}:St).put p.dst x).L++E}:St) dst u).trans (congrArg (· ++E) (VB ({s with L:=s.L++new}:St) p.dst x))
   have a2:=(VB ({(({s with L:=s.L++E}:St).put dst u) with L:=(({s with L:=s.L++E}:St).put dst u).L++new}:St) p.dst x).trans (congrArg (· ++new) (VB ({s with L:=s.L++E}:St) dst u))
   have a3:List.Perm (s.L++new++E) (s.L++E++new):=by
    rw[List.append_assoc,List.append_assoc];exact List.Perm.append_left _ List.perm_append_comm
   exact(List.Perm.of_eq a1).trans (a3.trans (List.Perm.of_eq a2.symm))
  ·intro d;cases hp:p.dst with
   |none=>cases dst<;>simp[St.put]
   |some dp=>
    cases dst with
    |none=>simp[St.put]
    |some di=>
     have hne':di≠dp:=fun e=>hne dp hp (by rw[e])
     simp only[St.put]
     by_cases e1:di=d
     ·subst e1;rw[fB,dA (Ne.symm hne'),fB]
     ·rw[dA e1]
      by_cases e2:dp=d
      ·subst e2;rw[fB,fB]
      ·rw[dA e2,dA e2,dA e1]
 obtain⟨h0,g,hg,hh⟩:=h;refine⟨by rw[hn];exact h0,g,?_,?_⟩
 ·have:=rZ (ops:=ops) (o:=p) (s:={s with L:=s.L++E}) (dst:=dst) (v:=u) hl
  rw[this];exact hg
 have c0:∀(x:Value),(({s with L:=s.L++[]}:St).put p.dst x)=s.put p.dst x:=fun x=>by simp
 have c1:∀(x:Value),({(({s with L:=s.L++E}:St).put dst u) with L:=(({s with L:=s.L++E}:St).put dst u).L++[]}:St).put p.dst x=(({s with L:=s.L++E}:St).put dst u).put p.dst x:=fun x=>by simp
 have comm0:∀(x:Value),tZ (({s.put p.dst x with L:=(s.put p.dst x).L++E}:St).put dst u) ((({s with L:=s.L++E}:St).put dst u).put p.dst x):=fun x=>by
  have:=comm x [];rw[c0,c1] at this;exact this
 have back:∀(B:Bs) (a:Act) (w:World),lh B (({s with L:=s.L++E}:St).put dst u) a w->∃v,lh B s (a.put dst v) w∧execOp (a.put dst v).eval p=execOp a.eval p:=fun B a w hr=>by
  obtain⟨v,hv⟩:=lh.putBack (s:=s) (new:=E) hd hr;exact⟨v,hv,execOp_put p hns a dst v hl⟩
 rcases hh with⟨h1,h2⟩|⟨h1,⟨h2,sv,h3,h4⟩|⟨h2,X,res,new,h3,hF,h4⟩|⟨hm,hA',hm',X,nx,h3,h4⟩|⟨hm,hd',L',h3,h5,h4⟩|⟨hA',e,cs,h3,h4⟩|⟨hC,hbS,X,res,nL,h3,h5,h4⟩⟩
 ·exact .inl ⟨h1,h2 _ (comm0 _)⟩
 ·refine .inr ⟨h1,.inl ⟨h2,sv,⟨fun B a w hr=>?_,fun h5 h6=>by rw[Bf (s:={s with L:=s.L++E}) hl];exact h3.2 h5 h6⟩,h4 _ (comm0 _)⟩⟩
  have h3:=h3.1;rw[OV hS] at hr h3;obtain⟨v,hv,he⟩:=back B a w hr;have:=h3 B _ w hv
  rwa [he] at this
 ·obtain⟨hF1,hX⟩:=hF hA;have hFl:Eb P p (({s with L:=s.L++E}:St).put dst u) X res new:=fun B a w hr=>by
   obtain⟨v,hv,he⟩:=back B a w hr;have:=hF1 B _ w hv
   rwa [he] at this
  refine .inr ⟨h1,.inr (.inl ⟨h2,X,res,new,fun B a w hr=>?_,fun _=>⟨hFl,hX⟩,fun x=>h4 x _ (comm _ _)⟩)⟩
  obtain⟨f,args,r1,r2⟩:=hFl B a w hr;refine⟨f,args,r1,r2.mono ?_⟩;rintro e w' ⟨x,rfl,hx,hown⟩;exact⟨x,rfl,hr.mem.joinF hx hown⟩
 ·exfalso
  rcases hp with hp|hp
  ·rw[hM,show OH bl p=true by simp[OH,hp]] at hm;cases hm
  ·rw[hA,hp] at hA';cases hA'
 ·rw[VC hp] at hm;cases hm
 ·exact .inr ⟨h1,.inr (.inr (.inr (.inr (.inl ⟨hA',e,cs,by rw[Jd (s:={s with L:=s.L++E}) hl];exact h3,fun g=>h4 g _ (comm _ _)⟩))))⟩
 ·rw[hS] at hbS;cases hbS
def iY.some{P:Program}{bl:List Nat}{ops:Array Oper}{p:Oper}{s:St}{K:St->Prop}(hS:FM bl=false)(hA:IB bl=true)(hp:iU p=true∨isAl p=true)(hM:IC bl=false)(h:iY P bl ops p s K):
 ∃x new,K (({s with L:=s.L++new}:St).put p.dst x):=by
 obtain⟨h0,g,hg,hh⟩:=h;rcases hh with⟨h1,h2⟩|⟨h1,⟨h2,sv,h3,h4⟩|⟨h2,X,res,new,h3,hF,h4⟩|⟨hm,hA',hm',X,nx,h3,h4⟩|⟨hm,hd',L',h3,h5,h4⟩|⟨hA',e,cs,h3,h4⟩|⟨hC,hbS,X,res,nL,h3,h5,h4⟩⟩
 ·exact⟨undef,[],by simpa using h2⟩
 ·exact⟨sv,[],by simpa using h4⟩
 ·obtain⟨_,⟨x⟩⟩:=hF hA;exact⟨_,_,h4 x⟩
 ·exfalso
  rcases hp with hp|hp
  ·rw[hM,show OH bl p=true by simp[OH,hp]] at hm;cases hm
  ·rw[hA,hp] at hA';cases hA'
 ·rw[VC hp] at hm;cases hm
 ·exact⟨_,_,h4 0⟩
 ·rw[hS] at hbS;cases hbS
def iY.form{P:Program}{bl:List Nat}{ops:Array Oper}{p:Oper}{s:St}{K:St->Prop}(hS:FM bl=false)(hA:IB bl=true)(hp:iU p=true∨isAl p=true)(hM:IC bl=false)(h:iY P bl ops p s K):
 iY P bl ops p s (fun s1=>K s1∧∃x new,s1=(({s with L:=s.L++new}:St).put p.dst x)):=by
 obtain⟨h0,g,hg,hh⟩:=h;refine⟨h0,g,hg,?_⟩;rcases hh with⟨h1,h2⟩|⟨h1,⟨h2,sv,h3,h4⟩|⟨h2,X,res,new,h3,hF,h4⟩|⟨hm,hA',hm',X,nx,h3,h4⟩|⟨hm,hd',L',h3,h5,h4⟩|⟨hA',e,cs,h3,h4⟩|⟨hC,hbS,X,res,nL,h3,h5,h4⟩⟩
 ·exact .inl ⟨h1,h2,undef,[],by simp⟩
 ·exact .inr ⟨h1,.inl ⟨h2,sv,h3,h4,sv,[],by simp⟩⟩
 ·exact .inr ⟨h1,.inr (.inl ⟨h2,X,res,new,h3,hF,fun x=>⟨h4 x,_,_,rfl⟩⟩)⟩
 ·exfalso
  rcases hp with hp|hp
  ·rw[hM,show OH bl p=true by simp[OH,hp]] at hm;cases hm
  ·rw[hA,hp] at hA';cases hA'
 ·rw[VC hp] at hm;cases hm
 ·exact .inr ⟨h1,.inr (.inr (.inr (.inr (.inl ⟨hA',e,cs,h3,fun g=>⟨h4 g,_,_,rfl⟩⟩))))⟩
 ·rw[hS] at hbS;cases hbS
def aY.swapA{P:Program}{bl:List Nat}{ops:Array Oper}{p i:Oper}{rest:List Oper}{s:St}{K:St->Prop}(hA:IB bl=true)(hS:FM bl=false)(hM:IC bl=false)(hK:KCP K)(hp:iU p=true∨isAl p=true)(hi:isAl i=true)
 (hap:p.apart ops i=true)(h:aY P bl ops (p::i::rest) s K):aY P bl ops (i::p::rest) s K:=by
 obtain⟨ap1,ap2,ap3⟩:=Oper.apart_spec hap;have h':iY P bl ops p s (fun s'=>iY P bl ops i s' (fun s2=>aY P bl ops rest s2 K)):=h;have hne:∀d,p.dst=some d->i.dst≠some d:=ap2;have hw:∀(x:Value) (new:List aG),ax ops i (({s with L:=s.L++new}:St).put p.dst x).t=ax ops i s.t:=fun x new=>rZ (s:={s with L:=s.L++new}) ap1
 have hci:jT i=false:=by
  unfold isAl at hi;unfold jT
  split at hi
  ·rename_i heq;rw[heq]
  ·rename_i heq;rw[heq]
  ·cases hi
 have what:∀{s1:St},iY P bl ops i s1 (fun s2=>aY P bl ops rest s2 K)->(∃x new,s1=(({s with L:=s.L++new}:St).put p.dst x))->
  (∀d,i.dst=some d->d<s.nt)∧((ax ops i s.t=some false∧aY P bl ops rest (s1.put i.dst undef) K)∨
 (ax ops i s.t=some true∧∃e cs,zC P s.t i=some (e,cs)∧∀g,aY P bl ops rest (({s1 with L:=s1.L++[alB g e cs]}:St).put i.dst (alV i g)) K)):=by
  rintro s1 ⟨k0,g,hk,hh⟩ ⟨x,new,rfl⟩;rw[hw] at hk;refine⟨fun d hd=>by have:=k0 d hd;rwa [show(({s with L:=s.L++new}:St).put p.dst x).nt=s.nt by cases p.dst<;>rfl] at this,?_⟩
  rcases hh with⟨rfl,h2⟩|⟨rfl,⟨h2,sv,h3,h4⟩|⟨h2,X,res,new,h3,hF,h4⟩|⟨hm,hA',hm',X,nx,h3,h4⟩|⟨hm,hd',L',h3,h5,h4⟩|⟨hA',e,cs,h3,h4⟩|⟨hC,hbS,X,res,nL,h3,h5,h4⟩⟩
  ·exact .inl ⟨hk,h2⟩
  ·rw[hA,hi] at h2;cases h2
  ·rw[hci] at h2;cases h2
  ·rw[hA,hi] at hA';cases hA'
  ·rw[VC (.inr hi)] at hm;cases hm
  ·exact .inr ⟨hk,e,cs,by rw[<-Jd (s:={s with L:=s.L++new}) ap1];exact h3,h4⟩
  ·rw[hS] at hbS;cases hbS
 have hf:=h'.form hS hA hp hM;obtain⟨x0,new0,k0,kf⟩:=hf.some hS hA hp hM;obtain⟨hb,hcase⟩:=what k0 kf;rcases hcase with⟨hk,_⟩|⟨hk,e,cs,hal,_⟩
 ·refine⟨hb,false,hk,.inl ⟨rfl,?_⟩⟩;have e:s.put i.dst undef=({s with L:=s.L++[]}:St).put i.dst undef:=by simp
  rw[e];refine iY.laterA hA hS hp hM hb ap3 hne (hf.mono ?_);rintro s1 ⟨hs1,hform⟩ s2 he;rcases(what hs1 hform).2 with⟨_,h2⟩|⟨h2,_⟩
  ·refine aY.kcP hA hS hK rest _ _ he ?_;have e:s1.put i.dst undef=({s1 with L:=s1.L++[]}:St).put i.dst undef:=by simp
   rw[<-e];exact h2
  ·rw[hk] at h2;cases h2
 ·refine⟨hb,true,hk,.inr ⟨rfl,.inr (.inr (.inr (.inr (.inl ⟨hi,e,cs,hal,fun gg=>?_⟩))))⟩⟩;refine iY.laterA hA hS hp hM hb ap3 hne (hf.mono ?_);rintro s1 ⟨hs1,hform⟩ s2 he;rcases(what hs1 hform).2 with⟨h2,_⟩|⟨_,e',cs',hal',h2⟩
  ·rw[hk] at h2;cases h2
  ·rw[hal] at hal';cases hal';exact aY.kcP hA hS hK rest _ _ he (h2 gg)
def XE{o:Oper}(hi:zF o=true):iU o=true∧jT o=false∧isAl o=false∧isSto o=false:=by
 unfold zF at hi
 split at hi
 ·rename_i heq;exact⟨by unfold iU;rw[heq],by unfold jT;rw[heq],by unfold isAl;rw[heq],by unfold isSto;rw[heq]⟩
 ·rename_i heq;exact⟨by unfold iU;rw[heq],by unfold jT;rw[heq],by unfold isAl;rw[heq],by unfold isSto;rw[heq]⟩
 ·rename_i heq;exact⟨by unfold iU;rw[heq],by unfold jT;rw[heq],by unfold isAl;rw[heq],by unfold isSto;rw[heq]⟩
 ·cases hi
def aY.swapQ{P:Program}{bl:List Nat}{ops:Array Oper}{p i:Oper}{rest:List Oper}{s:St}{K:St->Prop}(hA:IB bl=true)(hS:FM bl=false)(hM:IC bl=false)(hK:KCP K)(hp:isSto p=true∨isAl p=true)(hpg:p.guard=none)(hi:zF i=true)
 (hap:p.apart ops i=true)(h:aY P bl ops (p::i::rest) s K):aY P bl ops (i::p::rest) s K:=by
 obtain⟨ap1,ap2,ap3⟩:=Oper.apart_spec hap;have h':iY P bl ops p s (fun s'=>iY P bl ops i s' (fun s2=>aY P bl ops rest s2 K)):=h;obtain⟨h0,g,hg,hh⟩:=h';have hg1:g=true:=by
  unfold ax at hg;rw[hpg] at hg;simpa using hg.symm
 subst hg1;have hnp:(IB bl&&(isAl p||isSto p))=false->False:=fun h1=>by rcases hp with hp|hp<;>rw[hA,hp] at h1<;>simp at h1
 have hcp:jT p=false:=by
  rcases hp with hp|hp
  ·unfold isSto at hp
   split at hp<;>first|(cases hp;done)|(rename_i heq;unfold jT;rw[heq])
  ·unfold isAl at hp
   split at hp
   ·rename_i heq;unfold jT;rw[heq]
   ·rename_i heq;unfold jT;rw[heq]
   ·cases hp
 obtain⟨m1,m2,m3,m4⟩:=XE hi;have hns:∀cs b,p.op≠ .select cs b:=fun cs b e=>by
  rcases hp with hp|hp
  ·unfold isSto at hp;rw[e] at hp;cases hp
  ·unfold isAl at hp;rw[e] at hp;cases hp
 have hwp:∀s':St,ax ops p s'.t=some true:=fun s'=>by unfold ax;rw[hpg]
 have what:∀{s1:St},iY P bl ops i s1 (fun s2=>aY P bl ops rest s2 K)->s1.nt=s.nt->(ax ops i s1.t=ax ops i s.t)->nX P s1.t i=nX P s.t i->
  (∀d,i.dst=some d->d<s.nt)∧((ax ops i s.t=some false∧aY P bl ops rest (s1.put i.dst undef) K)∨(ax ops i s.t=some true∧∃v,nX P s.t i=some v∧aY P bl ops rest (s1.put i.dst v) K)):=by
  rintro s1 ⟨k0,gi,hgi,kk⟩ e1 e2 e3;rw[e2] at hgi;refine⟨fun d hd=>by rw[<-e1];exact k0 d hd,?_⟩;rcases kk with⟨h1,h2⟩|⟨h1,⟨h2,sv,q3,q4⟩|⟨h2,X,res,new,q3,hF,q4⟩|⟨qm,hA',qm',X,nx,q3,q4⟩|⟨qm,qd,L'',q3,q5,q4⟩|⟨hA',e,cs,q3,q4⟩|⟨hC,hbS,X,res,nL,q3,q5,q4⟩⟩
  ·exact .inl ⟨by rw[hgi,h1],h2⟩
  ·exact .inr ⟨by rw[hgi,h1],sv,by rw[<-e3];exact q3.2 hA hi,q4⟩
  ·rw[m2] at h2;cases h2
  ·rw[hM,show OH bl i=true by simp[OH,m1]] at qm;cases qm
  ·rw[m4] at qm;cases qm
  ·rw[m3] at hA';cases hA'
  ·rw[hS] at hbS;cases hbS
 have ahead:∀(v:Value),(ax ops i s.t=some false∧v=undef∨ax ops i s.t=some true∧nX P s.t i=some v)->(∀d,i.dst=some d->d<s.nt)->aY P bl ops (p::rest) (s.put i.dst v) K->aY P bl ops (i::p::rest) s K:=by
  intro v hv hb hr;rcases hv with⟨h1,rfl⟩|⟨h1,h2⟩
  ·exact⟨hb,false,h1,.inl ⟨rfl,hr⟩⟩
  ·exact⟨hb,true,h1,.inr ⟨rfl,.inl ⟨by rw[m3,m4];simp,v,⟨by rw[OV hS];exact Qy h2,fun _ _=>h2⟩,hr⟩⟩⟩
 rcases hh with⟨h1,_⟩|⟨_,⟨h2,sv,h3,h4⟩|⟨h2,X,res,new,h3,hF,h4⟩|⟨hm,hA',hm',X,nx,h3,h4⟩|⟨hm,hd,L',h3,h5,h4⟩|⟨hA',e,cs,h3,h4⟩|⟨hC,hbS,X,res,nL,h3,h5,h4⟩⟩
 ·cases h1
 ·exact(hnp h2).elim
 ·rw[hcp] at h2;cases h2
 ·exact(hnp hA').elim
 ·
  obtain⟨hb,hc⟩:=what h4 rfl rfl rfl;have behind:∀(v:Value),aY P bl ops rest ((({s with L:=L'}:St)).put i.dst v) K->aY P bl ops (p::rest) (s.put i.dst v) K:=by
   intro v hr;refine⟨fun d hd'=>(by rw[hd] at hd';cases hd'),true,hwp _,.inr ⟨rfl,.inr (.inr (.inr (.inl ⟨hm,hd,L',fun B a w hrel=>?_,(fun hb=>by rw[hS] at hb;cases hb),?_⟩)))⟩⟩
   ·have hrel':lh B (({s with L:=s.L++[]}:St).put i.dst v) a w:=by simpa using hrel
    obtain⟨u,hu⟩:=lh.putBack (s:=s) (new:=[]) hb hrel';have:=h3 B _ w hu
    rwa [execOp_put p hns a i.dst u ap3] at this
   ·have e:({s.put i.dst v with L:=L'}:St)=(({s with L:=L'}:St)).put i.dst v:=by cases i.dst<;>rfl
    rw[e];exact hr
  rcases hc with⟨c1,c2⟩|⟨c1,v,c2,c3⟩
  ·exact ahead undef (.inl ⟨c1,rfl⟩) hb (behind _ c2)
  ·exact ahead v (.inr ⟨c1,c2⟩) hb (behind _ c3)
 ·
  have hs1:∀gg,(({s with L:=s.L++[alB gg e cs]}:St).put p.dst (alV p gg)).nt=s.nt:=fun gg=>by cases p.dst<;>rfl
  have hw1:∀gg,ax ops i (({s with L:=s.L++[alB gg e cs]}:St).put p.dst (alV p gg)).t=ax ops i s.t:=fun gg=>rZ (s:={s with L:=s.L++[alB gg e cs]}) ap1
  have hv1:∀gg,nX P (({s with L:=s.L++[alB gg e cs]}:St).put p.dst (alV p gg)).t i=nX P s.t i:=fun gg=>Bf (s:={s with L:=s.L++[alB gg e cs]}) ap1
  have hp2:iU p=true∨isAl p=true:= .inr hA';have hpi:∀d,p.dst=some d->i.dst≠some d:=ap2;have behind:∀(v:Value),(∀d,i.dst=some d->d<s.nt)->(∀gg,aY P bl ops rest ((({s with L:=s.L++[alB gg e cs]}:St).put p.dst (alV p gg)).put i.dst v) K)->aY P bl ops (p::rest) (s.put i.dst v) K:=by
   intro v hb hr;have e:s.put i.dst v=({s with L:=s.L++[]}:St).put i.dst v:=by simp
   rw[e];refine iY.laterA (K:=fun s2=>aY P bl ops rest s2 K) hA hS hp2 hM hb ap3 hpi ⟨h0,true,hg,.inr ⟨rfl,.inr (.inr (.inr (.inr (.inl ⟨hA',_,cs,h3,fun gg s2 he=>?_⟩))))⟩⟩;refine aY.kcP hA hS hK rest _ _ he ?_;have:=hr gg
   simpa using this
  obtain⟨hb,hc⟩:=what (h4 0) (hs1 0) (hw1 0) (hv1 0);rcases hc with⟨c1,_⟩|⟨c1,v,c2,_⟩
  ·refine ahead undef (.inl ⟨c1,rfl⟩) hb (behind _ hb fun gg=>?_);rcases(what (h4 gg) (hs1 gg) (hw1 gg) (hv1 gg)).2 with⟨_,d2⟩|⟨d1,_⟩
   ·exact d2
   ·rw[c1] at d1;cases d1
  ·refine ahead v (.inr ⟨c1,c2⟩) hb (behind _ hb fun gg=>?_);rcases(what (h4 gg) (hs1 gg) (hw1 gg) (hv1 gg)).2 with⟨d1,_⟩|⟨_,v',d2,d3⟩
   ·rw[c1] at d1;cases d1
   ·rw[c2] at d2;cases d2;exact d3
 ·rw[hS] at hbS;cases hbS
def Jp(bl:List Nat)(ops:Array Oper)(op oi:Oper):Bool:=
 op.apart ops oi&&(((iU op&&vU bl oi&& !jT op)||(isAl oi&&(iU op||isAl op)))||((isSto op||isAl op)&&zF oi&&op.guard.isNone))
def aY.frontA{P:Program}{bl:List Nat}{ops:Array Oper}{i:Oper}{post:List Oper}{K:St->Prop}(hA:IB bl=true)(hS:FM bl=false)(hM:IC bl=false)(hK:KCP K):∀{pre:List Oper} {s:St},
 (∀p∈pre,Jp bl ops p i=true)->aY P bl ops (pre++i::post) s K->aY P bl ops (i::(pre++post)) s K
 |[],s,_,h=>h
 |p::pre,s,hp,h=>by
  have h1:iY P bl ops p s (fun s'=>aY P bl ops (pre++i::post) s' K):=h;have h2:aY P bl ops (p::i::(pre++post)) s K:=by
   refine iY.mono ?_ h1;intro s' hr;exact aY.frontA hA hS hM hK (fun q hq=>hp q (by simp[hq])) hr
  have hpp:=hp p (by simp);simp only[Jp,Bool.and_eq_true,Bool.or_eq_true,Bool.not_eq_true'] at hpp;obtain⟨ha,(⟨⟨hm,hf⟩,hc⟩|⟨hi,hm⟩)|⟨⟨hs,hi⟩,hg⟩⟩:=hpp
  ·exact aY.swap (hK.kc) hm hf hc ha h2
  ·exact aY.swapA hA hS hM hK hm hi ha h2
  ·exact aY.swapQ hA hS hM hK hs (by simpa using hg) hi ha h2
def Em(bl:List Nat)(ops:Array Oper)(p i:Nat):Bool:=
 waitsF ops ops.size i p||
 match ops[p]?,ops[i]? with
 |some op,some oi=>Jp bl ops op oi
 |_,_=>false
def zL(bl:List Nat)(ops:Array Oper)(perm:List Nat):Bool:=
 decide (perm.length=ops.size)&&perm.all (fun i=>decide (i<ops.size))&&(List.range ops.size).all (fun i=>perm.contains i)&&
 iZ (Em bl ops) perm&&iZ (jF ops) perm&&perm.all (fun i=>jF ops i i)&&perm.all (fun i=>ru ops i)&&iZ (fun i j=>i !=j) perm&&IB bl&& !FM bl&& !IC bl
def LP{P:Program}{bl:List Nat}{ops:Array Oper}{Q:Exit->Act->World->Prop}{K:St->Prop}{B:Bs}(hA:IB bl=true)(hS:FM bl=false)(hM:IC bl=false)(hK:KCP K)(hpost:∀s' a' w',K s'->lh B s' a' w'->Q .normal a' w'):
 ∀(n:Nat) (l:List Nat) (listed:Array Bool) (s:St) (a:Act) (w:World),l.length=n->TZ ops l->l.Pairwise (fun p i=>Em bl ops p i=true)->listed.size=ops.size->
  (∀j,j<ops.size->(listed.getD j true=false↔j∈l))->OI ops listed->aY P bl ops (l.map fun i=>ops.getD i default) s K->lh B s a w->
  wpAny P .any ops Q n listed a w:=by
 intro n
 induction n with
 |zero=>
  intro l listed s a w hn ho hok hsz hl hc hr h;have:l=[]:=List.eq_nil_of_length_eq_zero hn;subst this;refine⟨?_,hpost _ _ _ hr h⟩;rcases hh:Region.ready .any ops listed with _|⟨i,r⟩
  ·rfl
  ·exfalso
   obtain⟨h1,o,ho',_⟩:=mem_ready.1 (show i∈Region.ready .any ops listed by rw[hh];simp);have:=(hl i (Array.getElem?_eq_some_iff.1 ho').1).1 h1;simp at this
 |succ n ih=>
  intro l listed s a w hn ho hok hsz hl hc hr h;refine⟨fun h0=>?_,fun i hi=>?_⟩
  ·exfalso
   cases l with
   |nil=>simp at hn
   |cons i0 rest=>
    have hi0:=ho.lt i0 (by simp);have:i0∈Region.ready .any ops listed:=by
     refine mem_ready.2 ⟨(hl i0 hi0).2 (by simp),ops[i0],Array.getElem?_eq_getElem hi0,fun e he hb=>?_⟩
     rcases hx:listed.getD e.on false with _|_
     ·exfalso
      have hself:=ho.self i0 (by simp);have hnw:∀j,j∈rest->jF ops i0 j=true:=fun j hj=>(List.pairwise_cons.1 ho.nw).1 j hj
      have key:∀j,jF ops i0 j=true->e.on≠j:=fun j hj e'=>by
       unfold jF at hj;rw[Array.getElem?_eq_getElem hi0] at hj;have:=(Array.all_eq_true'.1 hj) e he;simp[hb,e'] at this
      rcases Nat.lt_or_ge e.on ops.size with hlt|hge
      ·have hun:listed.getD e.on true=false:=by
        have:e.on<listed.size:=(by rw[hsz];exact hlt);simp[this] at hx ⊢;exact hx
       have:=(hl e.on hlt).1 hun;rcases List.mem_cons.1 this with h1|h1
       ·exact key i0 hself h1
       ·exact key e.on (hnw _ h1) rfl
      ·have hj:=ho.ed i0 (by simp);unfold ru at hj;rw[Array.getElem?_eq_getElem hi0] at hj;have:=(Array.all_eq_true'.1 hj) e he;simp[hb] at this;omega
     ·rfl
    rw[h0] at this;cases this
  ·obtain⟨hun,oi,hoi,hall⟩:=mem_ready.1 hi;have hilt:=(Array.getElem?_eq_some_iff.1 hoi).1;have hil:i∈l:=(hl i hilt).1 hun;obtain⟨pre,post,rfl⟩:=List.append_of_mem hil;have hoid:ops.getD i default=oi:=by simp[hoi]
   have hpre:∀p∈pre,∃op,ops[p]? =some op∧Jp bl ops op oi=true:=by
    intro p hp;have hpo:Em bl ops p i=true:=(List.pairwise_append.1 hok).2.2 p hp i (by simp);unfold Em at hpo;rw[Bool.or_eq_true] at hpo;rcases hpo with hpo|hpo
    ·exfalso
     have h1:=rq hc hpo (fun o ho' e he hb=>by rw[hoi] at ho';cases ho';exact hall e he hb);have hplt:=ho.lt p (by simp[hp]);have h2:=(hl p hplt).2 (by simp[hp]);rw[OJ h2] at h1;cases h1
    ·rw[hoi] at hpo;cases hop:ops[p]? with
     |none=>rw[hop] at hpo;cases hpo
     |some op=>rw[hop] at hpo;exact⟨op,rfl,hpo⟩
   have hrun:aY P bl ops (oi::((pre++post).map fun i=>ops.getD i default)) s K:=by
    rw[List.map_append] at hr ⊢;rw[List.map_cons,hoid] at hr;refine aY.frontA hA hS hM hK ?_ hr;intro q hq;obtain⟨p,hp,rfl⟩:=List.mem_map.1 hq;obtain⟨op,hop,h1⟩:=hpre p hp;have:ops.getD p default=op:=by simp[hop]
    rw[this];exact h1
   have hsub:(pre++post).Sublist (pre++i::post):=List.Sublist.append (List.Sublist.refl _) (List.sublist_cons_self _ _);have hnd:=ho.nodup;have hinot:i∉pre++post:=by
    intro hm;have:=List.nodup_append.1 hnd;rcases List.mem_append.1 hm with h1|h1
    ·exact this.2.2 i h1 i (by simp) rfl
    ·exact(List.nodup_cons.1 this.2.1).1 h1
   unfold wpOp;rw[hoi];dsimp only;have hS':=iY.sound (K':=wpAny P .any ops Q n (listed.setIfInBounds i true)) (Q:=Q) hrun h (fun s' a' w' hk hrel=>by
 refine ih (pre++post) (listed.setIfInBounds i true) s' a' w' ?_ (ho.sub hsub) (hok.sublist hsub) (by simpa using hsz) ?_ ?_ hk hrel
 ·simp at hn ⊢;omega
 ·intro j hj
  by_cases hij:i=j
  ·subst hij;have:i<listed.size:=by rw[hsz];exact hilt
   simp[this]
   simpa using hinot
  ·rw[getD_set_ne true hij,hl j hj];simp[Ne.symm hij]
 ·intro j hj o hoj e he hb
  by_cases hij:i=j
  ·subst hij;rw[hoi] at hoj;cases hoj;exact getD_set_true (hall e he hb)
  ·rw[getD_set_ne false hij] at hj;exact getD_set_true (hc j hj o hoj e he hb))
   split
   ·rename_i hw;rw[if_pos hw] at hS';exact .inl hS'
   ·rename_i hw;rw[if_neg hw] at hS';exact hS'
def At.kcp{B:Bs}{X:Act->World->Prop}:KCP (fun s=>At B s X):=fun s s' he h a w hr=>h a w (he.rel hr)
def FU{P:Program}{B:Bs}{Q:Exit->Act->World->Prop}{s:St}{id:Nat}{l l':List Oper}(bl perm:List Nat)(hm:P.follows .mixedOrders=true)(hc:zL bl l.toArray perm=true)(hl:perm.map (fun i=>l.toArray.getD i default)=l')
 (h:aY P bl l.toArray l' s (fun s'=>At B s' (Q .normal))):At B s ((Code.region id l.toArray true).wp P Q):=fun a w hr=>by
 simp only[zL,Bool.and_eq_true,decide_eq_true_eq,Bool.not_eq_true'] at hc;obtain⟨⟨⟨⟨⟨⟨⟨⟨⟨⟨hlen,hlt⟩,hall⟩,hpo⟩,hnw⟩,hself⟩,hed⟩,hnd⟩,hA⟩,hS⟩,hM⟩:=hc;have hOrd:TZ l.toArray perm:=⟨fun i hi=>of_decide_eq_true (List.all_eq_true.1 hlt i hi),iE hnw,fun i hi=>List.all_eq_true.1 hself i hi,fun i hi=>List.all_eq_true.1 hed i hi,(iE hnd).imp (fun h=>by simpa using h)⟩
 subst hl;refine wp_region_any hm ?_;refine LP hA hS hM At.kcp (B:=B) (fun s' a' w' h1 h2=>h1 a' w' h2) l.toArray.size perm _ s a _ hlen hOrd (iE hpo) (by simp) ?_ ?_ h hr.drew
 ·intro j hj;have:j∈perm:=by
   have:=List.all_eq_true.1 hall j (List.mem_range.2 hj)
   simpa using this
  have hj':j<l.length:=(by simpa using hj);simp[hj',this]
 ·intro j hj
  exfalso
  rcases Nat.lt_or_ge j l.length with h1|h1
  ·simp[h1] at hj
  ·simp[h1] at hj
end Go.Via
namespace Go.Via
variable[Mo]
open Go Go.RowKit
def Jq{P:Program}{B:Bs}{fn:Func}{R:Ending->World->Prop}{s:St}(hfn:fn.results= #[])(hR:∀w,bf B s.L w->R (.returned (.tuple #[])) w)(hD:B.D=[]:=by first|rfl|assumption):At B s (bodyPost P fn R .normal):=fun a w hr=>
 ⟨hr.df.trans hD,.tuple #[],by simp[results,hfn],hR w hr.mem⟩
def Cm(P:Program)(f:Nat)(L0:List aG)(args:List Value)(X:Type)(res:X->Value)(L1:X->List aG):Prop:=
 ja P f=true∧∀(B:Bs) (w:World),B.D=[]->bf B L0 w->Calls P f args.toArray w fun e w'=>∃x,e= .returned (res x)∧bf B (L1 x) w'
section
variable{P:Program}{bl:List Nat}{ops:Array Oper}{K:St->Prop}{rest:List Oper}{nt:Nat}{t:List (Nat×Value)}{L:List aG}{d:Nat}{ty:TypeId}{pos:String}{af:Array Edge}{g:Option (Nat×Bool)}{x y:Operand}
def Ub{f:Nat}{v:Value}(hd:Nat.blt d nt=true)(hg:ax ops ⟨some d,.makeFunc (.func f) #[] #[x],ty,pos,af,g⟩ t=some true)(hx:ev t x=some v)(h:aY P bl ops rest ⟨nt,(d,.func (.func f) #[] #[v])::t,L⟩ K):
 aY P bl ops (⟨some d,.makeFunc (.func f) #[] #[x],ty,pos,af,g⟩::rest) ⟨nt,t,L⟩ K:=
 gq hd hg rfl (fun B a w hr=>by simp[execOp,Instr.makeFunc,hr.ev hx]) h
end
end Go.Via
namespace Go.Via
variable[Mo]
open Go Go.RowKit
def qgt(ms:List Nat)(l:List Edge):Nat:=l.foldl (fun m e=>if Region.binds .any e then m|||((1<<<e.on)|||ms.getD e.on 0) else m) 0
def Uc(ops:Array Oper)(ms:List Nat):Bool:=(List.range ops.size).all fun i=>match ops[i]? with
 |some o=>(o.after.toList.all fun e=> !Region.binds .any e||decide (e.on<i))&&ms.getD i 0==qgt ms o.after.toList
 |none=>true
def MP{ms:List Nat}{j:Nat}:∀{l:List Edge} {m:Nat},Nat.testBit (l.foldl (fun m e=>if Region.binds .any e then m|||((1<<<e.on)|||ms.getD e.on 0) else m) m) j=true->
 Nat.testBit m j=true∨∃e∈l,Region.binds .any e=true∧(e.on=j∨Nat.testBit (ms.getD e.on 0) j=true)
 |[],m,h=> .inl h
 |e::l,m,h=>by
  rw[List.foldl_cons] at h;rcases MP h with h|⟨e',h1,h2⟩
  ·split at h
   ·rename_i hb
    rw[Nat.testBit_or,Nat.testBit_or,Bool.or_eq_true,Bool.or_eq_true] at h;rcases h with h|h|h
    ·exact .inl h
    ·refine .inr ⟨e,by simp,hb,.inl ?_⟩;rw[Nat.testBit_shiftLeft] at h;simp only[Bool.and_eq_true,decide_eq_true_eq] at h;have h3:=h.2
     by_cases c:j-e.on=0
     ·omega
     ·exfalso
      obtain⟨k,hk⟩:∃k,j-e.on=k+1:=⟨j-e.on-1,by omega⟩;rw[hk,Nat.testBit_succ] at h3;simp at h3
    ·exact .inr ⟨e,by simp,hb,.inr h⟩
   ·exact .inl h
  ·exact .inr ⟨e',by simp[h1],h2⟩
def Dk{ops:Array Oper}{ms:List Nat}(hm:Uc ops ms=true):∀(f i j:Nat),i<f->i<ops.size->Nat.testBit (ms.getD i 0) j=true->waitsF ops f i j=true
 |0,i,j,h,_,_=>by omega
 |f+1,i,j,h,hi,hb=>by
  have h1:=List.all_eq_true.1 hm i (List.mem_range.2 hi);rw[Array.getElem?_eq_getElem hi] at h1;simp only[Bool.and_eq_true,beq_iff_eq] at h1;obtain⟨h2,h3⟩:=h1;rw[h3] at hb;unfold waitsF;rw[Array.getElem?_eq_getElem hi];rcases MP hb with hb|⟨e,he,hbe,hj⟩
  ·simp at hb
  ·have hlt:e.on<i:=by
    have:=List.all_eq_true.1 h2 e he;rw[hbe] at this
    simpa using this
   refine Array.any_eq_true'.2 ⟨e,by simpa using he,?_⟩;rw[hbe,Bool.true_and,Bool.or_eq_true];rcases hj with hj|hj
   ·exact .inl (by simpa using hj)
   ·exact .inr (Dk hm f e.on j (by omega) (by omega) hj)
def qfC(bl:List Nat)(ops:Array Oper)(ms:List Nat)(p i:Nat):Bool:=
 Nat.testBit (ms.getD i 0) p||
 match ops[p]?,ops[i]? with
 |some op,some oi=>iU op&&vU bl oi&& !jT op&&op.apart ops oi
 |_,_=>false
def ZE(bl:List Nat)(ops:Array Oper)(ms:List Nat)(p i:Nat):Bool:=
 Nat.testBit (ms.getD i 0) p||
 match ops[p]?,ops[i]? with
 |some op,some oi=>Jp bl ops op oi
 |_,_=>false
def zM{f g:Nat->Nat->Bool}:∀{l:List Nat},(∀p∈l,∀i∈l,f p i=true->g p i=true)->iZ f l=true->iZ g l=true
 |[],_,_=>rfl
 |p::l,h,hf=>by
  simp only[iZ,Bool.and_eq_true] at hf ⊢;exact⟨List.all_eq_true.2 fun i hi=>h p (by simp) i (by simp[hi]) (List.all_eq_true.1 hf.1 i hi),zM (fun p hp i hi=>h p (by simp[hp]) i (by simp[hi])) hf.2⟩
def QI(bl:List Nat)(ops:Array Oper)(perm:List Nat)(ms:List Nat):Bool:=
 Uc ops ms&&(decide (perm.length=ops.size)&&perm.all (fun i=>decide (i<ops.size))&&(List.range ops.size).all (fun i=>perm.contains i)&&
 iZ (qfC bl ops ms) perm&&iZ (jF ops) perm&&perm.all (fun i=>jF ops i i)&&perm.all (fun i=>ru ops i)&&iZ (Jf bl ops) perm&&iZ (Jg bl ops) perm&&iZ (fun i j=>i !=j) perm)
def oz{bl:List Nat}{ops:Array Oper}{perm:List Nat}(ms:List Nat)(h:QI bl ops perm ms=true):vW bl ops perm=true:=by
 unfold QI at h;rw[Bool.and_eq_true] at h;obtain⟨hm,h⟩:=h;unfold vW;simp only[Bool.and_eq_true] at h ⊢;obtain⟨⟨⟨⟨⟨⟨⟨⟨⟨h1,h2⟩,h3⟩,h4⟩,h5⟩,h6⟩,h7⟩,h8⟩,h9⟩,h10⟩:=h;refine⟨⟨⟨⟨⟨⟨⟨⟨⟨h1,h2⟩,h3⟩,zM (fun p hp i hi hpi=>?_) h4⟩,h5⟩,h6⟩,h7⟩,h8⟩,h9⟩,h10⟩;have hil:i<ops.size:=of_decide_eq_true (List.all_eq_true.1 h2 i hi);unfold qfC at hpi;unfold sW;rw[Bool.or_eq_true] at hpi ⊢;exact hpi.imp (Dk hm _ i p hil hil) id
def MQ(bl:List Nat)(ops:Array Oper)(perm:List Nat)(ms:List Nat):Bool:=
 Uc ops ms&&(decide (perm.length=ops.size)&&perm.all (fun i=>decide (i<ops.size))&&(List.range ops.size).all (fun i=>perm.contains i)&&
 iZ (ZE bl ops ms) perm&&iZ (jF ops) perm&&perm.all (fun i=>jF ops i i)&&perm.all (fun i=>ru ops i)&&iZ (fun i j=>i !=j) perm&&IB bl&& !FM bl&& !IC bl)
def VD{bl:List Nat}{ops:Array Oper}{perm:List Nat}(ms:List Nat)(h:MQ bl ops perm ms=true):zL bl ops perm=true:=by
 unfold MQ at h;rw[Bool.and_eq_true] at h;obtain⟨hm,h⟩:=h;unfold zL;simp only[Bool.and_eq_true] at h ⊢;obtain⟨⟨⟨⟨⟨⟨⟨⟨⟨⟨h1,h2⟩,h3⟩,h4⟩,h5⟩,h6⟩,h7⟩,h8⟩,h9⟩,h10⟩,h11⟩:=h;refine⟨⟨⟨⟨⟨⟨⟨⟨⟨⟨h1,h2⟩,h3⟩,zM (fun p hp i hi hpi=>?_) h4⟩,h5⟩,h6⟩,h7⟩,h8⟩,h9⟩,h10⟩,h11⟩;have hil:i<ops.size:=of_decide_eq_true (List.all_eq_true.1 h2 i hi);unfold ZE at hpi;unfold Em;rw[Bool.or_eq_true] at hpi ⊢;exact hpi.imp (Dk hm _ i p hil hil) id
end Go.Via
namespace Go.Via
variable[Mo]
open Go Go.RowKit
section
variable{P:Program}{bl:List Nat}{ops:Array Oper}{K:St->Prop}{rest:List Oper}{nt:Nat}{t:List (Nat×Value)}{L:List aG}{d:Nat}{ty:TypeId}{pos:String}{af:Array Edge}{g:Option (Nat×Bool)}{x y:Operand}
def qcX{T i:Nat}{v u:Value}(hd:Nat.blt d nt=true)(hg:ax ops ⟨some d,.field T x i,ty,pos,af,g⟩ t=some true)(hx:ev t x=some v)(hf:∀w,(Instr.field T v i).run P w= .ok u w)
 (h:aY P bl ops rest ⟨nt,(d,u)::t,L⟩ K):aY P bl ops (⟨some d,.field T x i,ty,pos,af,g⟩::rest) ⟨nt,t,L⟩ K:=
 gq hd hg rfl (fun B a w hrel=>by simp[execOp,hrel.ev hx,hf w]) h
end
end Go.Via
namespace Go.Via
variable[Mo]
open Go Go.RowKit
section
variable{P:Program}{bl:List Nat}{ops:Array Oper}{K:St->Prop}{rest:List Oper}{nt:Nat}{t:List (Nat×Value)}{L:List aG}{d:Nat}{ty:TypeId}{pos:String}{af:Array Edge}{g:Option (Nat×Bool)}{x y z:Operand}
def ZF{T e:Nat}{b:Option Nat}{len cap:Nat}{ki:IntKind}{inf:TI}(l:Nat)(hT:P.underlying T=some (.slice e))(hinf:eP P e inf=true)(hd:Nat.blt d nt=true)(hg:ax ops ⟨some d,.slice T x (some y) none none,ty,pos,af,g⟩ t=some true)(hx:ev t x=some (az b 0 len cap))(hy:ev t y=some (.int ki (l:Nat)))(h1:l<=len)
 (h:aY P bl ops rest ⟨nt,(d,az b (if cap=l then 0 else l*inf.size) (len-l) (cap-l))::t,L⟩ K):aY P bl ops (⟨some d,.slice T x (some y) none none,ty,pos,af,g⟩::rest) ⟨nt,t,L⟩ K:=
 gq hd hg rfl (fun B a w hrel=>by
 have he:P.elem T=e:=(by simp[Program.elem,hT]);have hT':P.underlying T=some (.slice (P.elem T)):=(by rw[he];exact hT);have h2:=hrel.ev hx;have h3:=hrel.ev hy;unfold az at h2;have r1:=run_sliceAt_slice (P:=P) w T (.slice (b.map fun g=>⟨g,0,none⟩) len cap) (some (.int ki (l:Nat))) none none hT';rw[run_slice_l (P:=P) w T (b.map fun g=>⟨g,0,none⟩) len cap hT' ki (l:Nat) (by omega) (by omega),he,pg hinf w] at r1;simp only[Result.andThen_ok] at r1;have e1:sliced (b.map fun g=>(⟨g,0,none⟩:Addr)) ((l:Nat):Int).toNat len cap inf.size=az b (if cap=l then 0 else l*inf.size) (len-l) (cap-l):=by
  unfold sliced az;rw[Int.toNat_natCast]
  by_cases hc:cap=l
  ·rw[if_pos hc,if_pos hc]
  ·rw[if_neg hc,if_neg hc];cases b<;>simp[jW]
 rw[e1] at r1;simp[execOp,h2,h3,r1]) h
def iJ{T e:Nat}{b:Option Nat}{len cap off' n' c':Nat}{ki:IntKind}{inf:TI}(l:Nat)(hT:P.underlying T=some (.slice e))(hinf:eP P e inf=true)(hd:Nat.blt d nt=true)(hg:ax ops ⟨some d,.slice T x (some y) none none,ty,pos,af,g⟩ t=some true)(hx:ev t x=some (az b 0 len cap))(hy:ev t y=some (.int ki (l:Nat)))(h1:l<=len)(e1:(if cap=l then 0 else l*inf.size)=off')(e2:len-l=n')(e3:cap-l=c')
 (h:aY P bl ops rest ⟨nt,(d,az b off' n' c')::t,L⟩ K):aY P bl ops (⟨some d,.slice T x (some y) none none,ty,pos,af,g⟩::rest) ⟨nt,t,L⟩ K:=by
 subst e1;subst e2;subst e3;exact ZF l hT hinf hd hg hx hy h1 h
def Ud{T e off2:Nat}{inf:TypeInfo}{bb:Option Nat}{len cap c2:Nat}{b2:Option Nat}(hT:P.underlying T=some (.slice e))(hi:P.info? e=some inf)(hd:Nat.blt d nt=true)
 (hg:ax ops ⟨some d,.call {callee:= .builtin .append,args:= #[x,y],argTypes:= #[T,T]},ty,pos,af,g⟩ t=some true)
 (hx:ev t x=some (az bb 0 len cap))(hcap:len<=cap)(hy:ev t y=some (az b2 off2 0 c2))(h:aY P bl ops rest ⟨nt,(d,az bb 0 len cap)::t,L⟩ K):
 aY P bl ops (⟨some d,.call {callee:= .builtin .append,args:= #[x,y],argTypes:= #[T,T]},ty,pos,af,g⟩::rest) ⟨nt,t,L⟩ K:=
 gq hd hg rfl (fun B a w hr=>by
 have hx':=hr.ev hx;have hy':=hr.ev hy;have hs:Src P inf.size T (az b2 off2 0 c2) 0 [] w:=by
  cases b2 with
  |none=>exact Src.ofNil (P:=P) w hT c2
  |some g2=>exact Src.ofSlice (P:=P) w hT ⟨g2,off2,none⟩ 0 c2 [] (by simp) (fun j u hj=>by simp at hj) (fun u hu=>by cases hu)
 have r1:=run_append_nothing (P:=P) w T T ty e inf hT hi (bb.map fun g=>⟨g,0,none⟩) len cap hcap (az b2 off2 0 c2) hs;have r2:(execOp a.eval ⟨some d,.call {callee:= .builtin .append,args:= #[x,y],argTypes:= #[T,T]},ty,pos,af,g⟩).run P w=((Builtin.append_ #[T,T] ty #[az bb 0 len cap,az b2 off2 0 c2]).run P w).andThen fun v w=> .ok (.value v) w:=by
  simp[execOp,resolve,invoke,builtin,hx',hy']
 rw[r2];unfold az at r1 ⊢;rw[r1];rfl) h
end
end Go.Via
namespace Go.Via
variable[Mo]
open Go Go.RowKit
def Oper.wp_monoQ{P:Program}{o:Oper}{a:Act}{w:World}{K K':Act->World->Prop}{Q Q':Exit->Act->World->Prop}(h:∀a w,K a w->K' a w)
 (hp:∀c a w,Q (.panic c) a w->Q' (.panic c) a w)(hl:LetsOut Q->LetsOut Q')(hh:o.wp P a w K Q):o.wp P a w K' Q':=by
 unfold Oper.wp at*
 generalize(execOp a.eval o).run P w=r at*
 cases r with
 |ok n w'=>
  cases n<;>simp only[Oper.upon] at hh ⊢ <;>
   first
    |exact h _ _ hh
    |exact Calls.mono hh (fun e w'' he=>by cases e<;>first|exact h _ _ he|exact hp _ _ _ he|exact hl he)
    |exact Rows.mono hh (fun _ _ he=>h _ _ he)
 |halt x w'=>cases x<;>simp only[Oper.upon] at hh ⊢ <;>first|exact hp _ _ _ hh|exact hh
def su{P:Program}{md:Region.Mode}{ops:Array Oper}{Q Q':Exit->Act->World->Prop}(hn:∀a w,Q .normal a w->Q' .normal a w)
 (hp:∀c a w,Q (.panic c) a w->Q' (.panic c) a w)(hl:LetsOut Q->LetsOut Q'):∀(n:Nat) (listed:Array Bool) (a:Act) (w:World),wpAny P md ops Q n listed a w->wpAny P md ops Q' n listed a w
 |0,_,_,_,h=>⟨h.1,hn _ _ h.2⟩
 |n+1,listed,a,w,h=>⟨fun h0=>hn _ _ (h.1 h0),fun i hi=>by
 have h1:=h.2 i hi;unfold wpOp at h1 ⊢
 split
 ·rename_i ho;rw[ho] at h1;exact su hn hp hl n _ _ _ h1
 ·rename_i o ho
  rw[ho] at h1;dsimp only at h1
  split
  ·rename_i hw
   rw[if_pos hw] at h1;exact h1.imp (Oper.wp_monoQ (su hn hp hl n _) hp hl) (fun h2=>⟨h2.1,hl h2.2⟩)
  ·rename_i hw
   rw[if_neg hw] at h1;exact su hn hp hl n _ _ _ h1⟩
def Bg(ops:Array Oper):Array Bool->List Nat->Bool
 |_,[]=>true
 |listed,i::E=>(match ops[i]? with
 |some o=>iU o&& !jT o
 |none=>false)&&Region.free .any ops listed i&&(Region.ready .any ops listed).contains i&&Bg ops (listed.setIfInBounds i true) E
def vY(X:Act->World->Prop):Exit->Act->World->Prop
 | .normal,a,w=>X a w
 |_,_,_=>False
def zN{P:Program}{ops:Array Oper}{X:Act->World->Prop}{B:Bs}{w:World}{nt:Nat}{L:List aG}{n:Nat}(hsel:Region.noSelect ops=true){G:List (Nat×Value)->Array Bool->Prop}
 (hG:∀(t:List (Nat×Value)) (listed:Array Bool) (a:Act),G t listed->lh B ⟨nt,t,L⟩ a w->wpAny P .any ops (vY X) n listed a w):
 ∀(E:List Nat) (listed:Array Bool) (t:List (Nat×Value)) (a:Act),Bg ops listed E=true->
  aY P [] ops (E.map fun i=>ops.getD i default) ⟨nt,t,[]⟩ (fun s'=>G s'.t (E.foldl (fun(x:Array Bool) i=>x.setIfInBounds i true) listed))->lh B ⟨nt,t,L⟩ a w->wpAny P .any ops (vY X) (E.length+n) listed a w
 |[],listed,t,a,_,hr,h=>by rw[show([]:List Nat).length+n=n by simp];exact hG t listed a hr h
 |i::E,listed,t,a,hc,hr,h=>by
  simp only[Bg,Bool.and_eq_true,Bool.not_eq_true'] at hc;obtain⟨⟨⟨hk,hf⟩,hrd⟩,hE⟩:=hc;cases ho:ops[i]? with
  |none=>rw[ho] at hk;cases hk
  |some o=>
   rw[ho] at hk;simp only[Bool.and_eq_true,Bool.not_eq_true'] at hk;obtain⟨hmv,hcl⟩:=hk;have hoid:ops.getD i default=o:=by simp[ho]
   have hr1:iY P [] ops (ops.getD i default) ⟨nt,t,[]⟩ (fun s'=>aY P [] ops (E.map fun i=>ops.getD i default) s' (fun s'=>G s'.t (E.foldl (fun(x:Array Bool) i=>x.setIfInBounds i true) (listed.setIfInBounds i true)))):=hr;rw[hoid] at hr1;obtain⟨h0,g,hg,hh⟩:=hr1;have hw:=Ea h hg;have hrel0:∀w':World,lh ⟨w',fun _=>False,B.D⟩ ⟨nt,t,[]⟩ a w':=fun w'=>⟨h.df,h.size,h.tmp,⟨⟨rfl,rfl,rfl,Nat.le_refl _,fun _ _ _=>rfl,fun _=>Nat.le_refl _⟩,fun k b hk=>by simp at hk,(fun i j g bi bj hij hi=>by simp at hi),mP.nil _ _⟩⟩
   have hnsto:isSto o=false:=by
    unfold isSto;unfold iU at hmv
    split<;>first|rfl|(rename_i heq;rw[heq] at hmv;cases hmv)
   have hnal:isAl o=false:=by
    unfold isAl;unfold iU at hmv
    split
    ·rename_i heq;rw[heq] at hmv;cases hmv
    ·rename_i heq;rw[heq] at hmv;cases hmv
    ·rfl
   obtain⟨v,hy,hk⟩:∃v,Go.Yields P ops o v a∧aY P [] ops (E.map fun i=>ops.getD i default) ((⟨nt,t,[]⟩:St).put o.dst v) (fun s'=>G s'.t (E.foldl (fun(x:Array Bool) i=>x.setIfInBounds i true) (listed.setIfInBounds i true))):=by
    rcases hh with⟨h1,h2⟩|⟨h1,⟨h2,v,h3,h4⟩|⟨h2,_⟩|⟨hm,_⟩|⟨hm,_⟩|⟨hm,_⟩|⟨_,hm,_⟩⟩
    ·exact⟨undef,.inr ⟨by rw[hw,h1],rfl⟩,h2⟩
    ·exact⟨v,.inl ⟨by rw[hw,h1],fun w'=>h3.1 _ a w' (hrel0 w')⟩,h4⟩
    ·rw[hcl] at h2;cases h2
    ·simp[IC,OH,hmv] at hm
    ·rw[hnsto] at hm;cases hm
    ·rw[hnal] at hm;cases hm
    ·cases hm
   rw[show(i::E).length+n=(E.length+n)+1 by simp;omega];refine wpAny_take ho hsel hf hrd (fun c a w hq=>hq.elim) hy ?_;have hput:(⟨nt,t,[]⟩:St).put o.dst v=⟨nt,((⟨nt,t,[]⟩:St).put o.dst v).t,[]⟩:=by cases o.dst<;>rfl
   rw[hput] at hk;refine zN hsel hG E _ _ _ hE hk ?_;have h5:=h.put0 (dst:=o.dst) (v:=v) h0;have h6:(⟨nt,t,L⟩:St).put o.dst v=⟨nt,((⟨nt,t,[]⟩:St).put o.dst v).t,L⟩:=by cases o.dst<;>rfl
   rw[<-h6];exact h5
def Ue{P:Program}{ops:Array Oper}{K:St->Prop}{listed:Array Bool}{s:St}(h:Region.ready .any ops listed=[])(hk:K s):zK P ops K 0 listed s:=⟨h,hk⟩
end Go.Via
namespace Go.Via
variable[Mo]
open Go Go.RowKit
section
variable{P:Program}{bl:List Nat}{ops:Array Oper}{K:St->Prop}{rest:List Oper}{nt:Nat}{t:List (Nat×Value)}{L:List aG}{d:Nat}{ty:TypeId}{pos:String}{af:Array Edge}{g:Option (Nat×Bool)}{x y:Operand}
def qgu{T e:Nat}{b:Option Addr}{len cap:Nat}(hT:P.underlying T=some (.slice e))(hd:Nat.blt d nt=true)(hg:ax ops ⟨some d,.call {callee:= .builtin .len,args:= #[x],argTypes:= #[T]},ty,pos,af,g⟩ t=some true)(hx:ev t x=some (.slice b len cap))(h:aY P bl ops rest ⟨nt,(d,.int .i64 len)::t,L⟩ K):
 aY P bl ops (⟨some d,.call {callee:= .builtin .len,args:= #[x],argTypes:= #[T]},ty,pos,af,g⟩::rest) ⟨nt,t,L⟩ K:=
 gq hd hg rfl (fun B a w hrel=>by
 have he:P.elem T=e:=(by simp[Program.elem,hT]);have:=run_len_slice (P:=P) w T ty b len cap (by rw[he];exact hT);have h2:=hrel.ev hx;simp[execOp,resolve,invoke,builtin,h2,this,goInt]) h
end
end Go.Via
namespace Go.Via
variable[Mo]
open Go Go.RowKit Go.MapKept
abbrev IM:=List (Int×Value)
def kvI(l:IM):List (Value×Value):=l.map fun p=>(.int .i64 p.1,p.2)
def kvE(e:MapEntry):Value×Value:=(e.key,e.val)
noncomputable def mI(l:IM):Nat:=mE (kvI l)
def VE(l:IM):Bool:=l.all fun p=>Value.simple p.2
def Uf{l:IM}(h:VE l=true):tN (kvI l)=true:=by
 unfold tN kvI;rw[List.all_map];refine List.all_eq_true.2 fun p hp=>?_
 have:=List.all_eq_true.1 h p hp;simp[Value.simple,Value.simple0] at this ⊢;exact this
def bf.map{B:Bs}{w:World}{L:List aG}(h:bf B L w){k:Nat}{g:Nat}{l:IM}{own:Bool}(hs:VE l=true)(hk:L[k]? =some ⟨some g,mI l,[],0,own⟩):
 ∃es clock,w.heap[g]? =some (.map es clock)∧es.toList.map kvE=kvI l∧Stamped es clock:=by
 rcases((h.blk k _ hk).1 g rfl).1 with⟨cur,⟨_,_,_,_,hlt⟩,_⟩|⟨l',es,clock,a1,_,_,a4,a5,a6,a7⟩
 ·exact absurd hlt (qio _)
 ·have e:kvI l=l':=by
   rcases a1 with a1|⟨_,_,a1,_⟩
   ·exact qgb (Uf hs) a4 a1
   ·exact absurd a1 qgc
  subst e;exact⟨es,clock,a5,a6,a7⟩
section
variable{P:Program}{bl:List Nat}{ops:Array Oper}{K:St->Prop}{rest:List Oper}{nt:Nat}{t:List (Nat×Value)}{L:List aG}{d:Nat}{ty:TypeId}{pos:String}{af:Array Edge}{gd:Option (Nat×Bool)}{x y z:Operand}
end
end Go.Via
namespace Go.Via
variable[Mo]
open Go Go.RowKit
section
variable{P:Program}{bl:List Nat}{ops:Array Oper}{K:St->Prop}{rest:List Oper}{nt:Nat}{t:List (Nat×Value)}{L:List aG}{d:Nat}{ty:TypeId}{pos:String}{af:Array Edge}{g:Option (Nat×Bool)}{x y:Operand}
def Jr{f:Nat}{args:List Operand}{ts:Array TypeId}{caps vs:List Value}{B:Bs}{w:World}{s:St}{a:Act}{dst:Option Nat}(hp:ja P f=true)(hr:lh B s a w)(hf:ev s.t x=some (.func (.func f) #[] caps.toArray))(hv:args.map (ev s.t)=vs.map some):
 (execOp a.eval ⟨dst,.call {callee:= .value x,args:=args.toArray,argTypes:=ts},ty,pos,af,g⟩).run P w= .ok (.enter f (vs++caps).toArray) w:=by
 have hfv:=hr.ev hf;have hva:args.toArray.map a.eval=vs.toArray:=(by simp[oJ hr hv]);unfold ja at hp;cases hq:P.funcs[f]? with
 |none=>rw[hq] at hp;cases hp
 |some fn=>
  rw[hq] at hp;simp only[Bool.and_eq_true,Bool.not_eq_true'] at hp;obtain⟨h1,h2⟩:=hp;have h3:fn.body≠none:=by intro hb;rw[hb] at h1;cases h1
  have h4:¬fn.name= "runtime.NumGoroutine" :=(by simpa using h2);simp[execOp,resolve,hfv,hva,Deferred.ofValue,invoke,callFunc,hq,h4,h3]
def qcY{f:Nat}{args:List Operand}{ts:Array TypeId}{caps:List Value}(vs:List Value){L0:List aG}{X:Type}[hX:Nonempty X]{res:X->Value}{new:X->List aG}(ks:List Nat)(hd:Nat.blt d nt=true)(hg:ax ops ⟨some d,.call {callee:= .value x,args:=args.toArray,argTypes:=ts},ty,pos,af,g⟩ t=some true)
 (hf:ev t x=some (.func (.func f) #[] caps.toArray))(hv:args.map (ev t)=vs.map some)(hc:dh P f L0 (vs++caps) X res new)(hp:jr L (ks.map some) L0)(ho:(L0.all fun b=> !b.own)=true)(hn:∀x,∀b∈new x,b.own=true)
 (h:∀x,aY P bl ops rest ⟨nt,(d,res x)::t,L++new x⟩ K):
 aY P bl ops (⟨some d,.call {callee:= .value x,args:=args.toArray,argTypes:=ts},ty,pos,af,g⟩::rest) ⟨nt,t,L⟩ K:=
 Ef hd hg rfl (X:=X) (res:=res) (new:=new) (fun B a w hr=>⟨f,(vs++caps).toArray,Jr hc.1 hr hf hv,(hc.2 w (hr.mem.asArgs ks hp (fun b hb=>by simpa using List.all_eq_true.1 ho b hb))).mono (by
 rintro e w' ⟨x,rfl,hx⟩;exact⟨x,rfl,hr.mem.joinF hx (hn x)⟩)⟩) (fun _=>⟨fun B a w hr=>⟨f,(vs++caps).toArray,Jr hc.1 hr hf hv,(hc.2 w (hr.mem.asArgs ks hp (fun b hb=>by simpa using List.all_eq_true.1 ho b hb))).mono (by
 rintro e w' ⟨x,rfl,hx⟩;exact⟨x,rfl,hx,hn x⟩)⟩,hX⟩) fun x=>h x
def ZG{f:Nat}{args:List Operand}{ts:Array TypeId}{caps:List Value}(vs:List Value){L0:List aG}{v:Value}(ks:List Nat)(hd:Nat.blt d nt=true)(hg:ax ops ⟨some d,.call {callee:= .value x,args:=args.toArray,argTypes:=ts},ty,pos,af,g⟩ t=some true)
 (hf:ev t x=some (.func (.func f) #[] caps.toArray))(hv:args.map (ev t)=vs.map some)(hc:dh P f L0 (vs++caps) Unit (fun _=>v) (fun _=>[]))(hp:jr L (ks.map some) L0)(ho:(L0.all fun b=> !b.own)=true)
 (h:aY P bl ops rest ⟨nt,(d,v)::t,L⟩ K):
 aY P bl ops (⟨some d,.call {callee:= .value x,args:=args.toArray,argTypes:=ts},ty,pos,af,g⟩::rest) ⟨nt,t,L⟩ K:=
 qcY vs ks hd hg hf hv hc hp ho (fun x b hb=>by cases hb) fun x=>by
  have:L++([]:List aG)=L:=List.append_nil L;show aY P bl ops rest ⟨nt,(d,v)::t,L++[]⟩ K;rw[this];exact h
end
end Go.Via
namespace Go.Via
variable[Mo]
open Go Go.RowKit
structure OR(need s:Nat) where
 b:Option Nat
 n:Nat
 cap:Nat
 h:need<=cap
 hn:cap*s<=n
section
variable{P:Program}{bl:List Nat}{ops:Array Oper}{K:St->Prop}{rest:List Oper}{nt:Nat}{t:List (Nat×Value)}{L:List aG}{d:Nat}{ty:TypeId}{pos:String}{af:Array Edge}{g:Option (Nat×Bool)}{x y:Operand}
def Ug{T e:Nat}{inf:TypeInfo}{z:Value}{b:aG}{len cap b2o off2 n2 c2:Nat}{b2:aG}(hem:e<dC)(k k2:Nat)(news:List Value)(mk:AR (len+n2) inf.size->List aG)(hT:P.underlying T=some (.slice e))(hi:P.info? e=some inf)(hz:inf.zero=some z)(hs:0<inf.size)(hzs:z.cells.size=inf.size)(hbytes:inf.bytes<=1024)(hd:Nat.blt d nt=true)
 (hg:ax ops ⟨some d,.call {callee:= .builtin .append,args:= #[x,y],argTypes:= #[T,T]},ty,pos,af,g⟩ t=some true)
 (hk:L[k]? =some b)(ho:b.own=true)(he:b.e=e)(hlen:b.cs.length=len*inf.size)(hcap:len<=cap)(hn:cap*inf.size<=b.n)(hx:ev t x=some (az b.base 0 len cap))
 (hk2:L[k2]? =some b2)(hnew:(b2.cs.drop off2).take (n2*inf.size)=news)(hlen2:news.length=n2*inf.size)(hpos:0<n2)(hb2:b2.base=some b2o)(hy:ev t y=some (az (some b2o) off2 n2 c2))(h1:∀v∈news,v.oneCell'=true)(hmax:len+n2<=17179869184)
 (hL:∀r,L.set k ⟨some r.g,e,b.cs++news,r.n,true⟩=mk r)
 (h:∀r:AR (len+n2) inf.size,aY P bl ops rest ⟨nt,(d,az (some r.g) 0 (len+n2) r.cap)::t,mk r⟩ K):
 aY P bl ops (⟨some d,.call {callee:= .builtin .append,args:= #[x,y],argTypes:= #[T,T]},ty,pos,af,g⟩::rest) ⟨nt,t,L⟩ K:=
 MM hd hg rfl rfl (X:=AR (len+n2) inf.size) (nx:=fun r=>⟨nt,(d,az (some r.g) 0 (len+n2) r.cap)::t,mk r⟩) (fun hd'=>Ji fun B a w hr=>by
 have hx':=hr.ev hx;have hy':=hr.ev hy
 have hnews:∀j u,news[j]? =some u->w.cell? ((⟨b2o,off2,none⟩:Addr).add j)=some u:=fun j u hj=>by
  have hj2:b2.cs[off2+j]? =some u:=by
   rw[<-hnew] at hj;rw[List.getElem?_take] at hj
   split at hj
   ·rwa [List.getElem?_drop] at hj
   ·cases hj
  obtain⟨g',hg',h2⟩:=hr.mem.cell hk2 hj2;rw[hb2] at hg';cases hg';rw[jW];exact h2
 have hsrc:=Src.ofSlice (P:=P) w (size:=inf.size) hT ⟨b2o,off2,none⟩ n2 c2 news hlen2 hnews h1;have fin:∀v w',(Builtin.append_ #[T,T] ty #[az b.base 0 len cap,az (some b2o) off2 n2 c2]).run P w= .ok v w'->(execOp a.eval ⟨some d,.call {callee:= .builtin .append,args:= #[x,y],argTypes:= #[T,T]},ty,pos,af,g⟩).run P w= .ok (.value v) w':=fun v w' hv=>by
  simp[execOp,resolve,invoke,builtin,hx',hy',hv]
 by_cases hroom:len+n2<=cap
 ·
  obtain⟨gg,hgg⟩:∃gg,b.base=some gg:=by
   cases hbb:b.base with
   |some gg=>exact⟨gg,rfl⟩
   |none=>
    have:=((hr.mem.blk k b hk).2 hbb).2;have h3:1*1<=cap*inf.size:=Nat.mul_le_mul (by omega) hs;omega
  obtain⟨cur,⟨e',fr,c1,cfr,_⟩,c2',c3⟩:=((hr.mem.blk k b hk).1 gg hgg).cells (.inl (by
 have h3:1*1<=cap*inf.size:=Nat.mul_le_mul (by omega) hs;omega))
  obtain⟨rfl,rfl⟩:=cfr ho;have hroomc:(len+n2)*inf.size<=cap*inf.size:=Nat.mul_le_mul_right _ hroom;have hsum:(len+n2)*inf.size=len*inf.size+n2*inf.size:=Nat.add_mul ..;have hfit:0+len*inf.size+news.length<=cur.size:=by rw[hlen2];omega
  have r1:=run_append_room_src (P:=P) w T T ty e inf hT hi gg 0 len cap (az (some b2o) off2 n2 c2) n2 news hsrc hroom
   (fun j hj=>by
 rw[cell_of_row w gg _ cur b.e (0,0) c1];rw[Array.getElem?_eq_getElem (by omega)];rfl)
   (fun j hj=>by simp[World.frozen?,c1])
  rw[yE news w gg _ cur b.e c1 hfit] at r1;refine⟨_,_,(⟨gg,b.n,cap,hroom,hn⟩:AR (len+n2) inf.size),fin _ _ (by unfold az at r1 ⊢;rw[hgg];exact r1),?_⟩;refine hr.put hd' ?_;rw[<-hL];have hcur:cur.toList.take (0+len*inf.size)=b.cs:=by rw[Nat.zero_add,<-hlen];exact c3
  have h5:=hr.mem.set hk ho hgg (cur.toList.take (0+len*inf.size)++news++cur.toList.drop (0+len*inf.size+news.length)).toArray (b.cs++news)
   (by simp only[List.size_toArray,List.length_append,List.length_take,List.length_drop,Array.length_toList];omega)
   (by
 rw[hcur];simp only[List.append_assoc];rw[List.length_append,<-List.append_assoc,<-List.length_append];exact List.take_left)
  rw[hgg] at h5;rw[ho] at h5;rw[he] at h5;exact h5
 ·
  have hold:(Builtin.firstCells inf.size len (az b.base 0 len cap)).run P w.drew= .ok b.cs.toArray w.drew:=by
   cases hbb:b.base with
   |none=>
    have:=((hr.mem.blk k b hk).2 hbb).1;rw[this];exact run_firstCells_none w.drew inf.size len len cap
   |some gg=>
    refine run_firstCells_some (P:=P) w.drew inf.size len ⟨gg,0,none⟩ len cap b.cs hlen (fun j v hj=>?_);obtain⟨g',hg',h2⟩:=hr.mem.cell hk hj;rw[hbb] at hg';cases hg';rw[jW,Nat.zero_add];exact h2
  have hge:=grownCap_ge w (len+n2) cap e;have hbb:(len+n2)*inf.bytes<=17179869184*1024:=Nat.mul_le_mul hmax hbytes;have hfit:Builtin.nextslicecap (len+n2) cap*inf.bytes<=281474976710656:=growslice_fits (by omega) (by omega);have r1:=run_append_grow_src (P:=P) w T T ty e inf z hT hi hz (b.base.map fun g=>⟨g,0,none⟩) len cap b.cs hold (az (some b2o) off2 n2 c2) n2 news hsrc (by omega) (by omega) hfit;refine⟨_,_,(⟨w.heap.size,(((b.cs++news).toArray++Builtin.zeroCells z.cells (grownCap w (len+n2) cap e-(len+n2))):Array Value).size,grownCap w (len+n2) cap e,hge,?_⟩:AR (len+n2) inf.size),fin _ _ r1,?_⟩
  ·have hz':(Builtin.zeroCells z.cells (grownCap w (len+n2) cap e-(len+n2))).size=(grownCap w (len+n2) cap e-(len+n2))*inf.size:=by
    unfold Builtin.zeroCells;simp[hzs]
   have hm:(grownCap w (len+n2) cap e-(len+n2))*inf.size+(len+n2)*inf.size=grownCap w (len+n2) cap e*inf.size:=by
    rw[<-Nat.add_mul,Nat.sub_add_cancel hge]
   have hsum:(len+n2)*inf.size=len*inf.size+n2*inf.size:=Nat.add_mul ..;rw[Array.size_append,hz'];simp only[List.size_toArray,List.length_append];omega
  ·refine hr.put hd' ?_;rw[<-hL];have h5:=(hr.mem.drew.alloc e ((b.cs++news).toArray++Builtin.zeroCells z.cells (grownCap w (len+n2) cap e-(len+n2))) hem);refine(h5.last (b':=⟨some w.heap.size,e,b.cs++news,((b.cs++news).toArray++Builtin.zeroCells z.cells (grownCap w (len+n2) cap e-(len+n2)):Array Value).size,true⟩) ⟨rfl,rfl,rfl,⟨(b.cs++news).length,?_⟩,fun _=>rfl⟩).swapIn k
   rw[Array.toList_append];exact(List.take_left (l₁:=b.cs++news)).symm) fun r=>h r
def fK{T e s:Nat}{zz:Value}{b:aG}{len cap off2 n2 c2:Nat}{b2:aG}(k k2:Nat)(news:List Value)(mk:OR (len+n2) s->List aG)(hT:P.underlying T=some (.slice e))(hi:LK P e s zz)(hd:Nat.blt d nt=true)
 (hg:ax ops ⟨some d,.call {callee:= .builtin .append,args:= #[x,y],argTypes:= #[T,T]},ty,pos,af,g⟩ t=some true)
 (hk:L[k]? =some b)(ho:b.own=true)(he:b.e=e)(hx:ev t x=some (az b.base 0 len cap))(hk2:L[k2]? =some b2)(hy:ev t y=some (az b2.base off2 n2 c2))(hs:Nat.blt 0 s=true)(hzs:zz.cells.size=s)
 (hlen:b.cs.length=len*s)(hcap:len<=cap)(hn:cap*s<=b.n)(hb2:n2=0∨∃g,b2.base=some g)(hnew:(b2.cs.drop off2).take (n2*s)=news)(hlen2:news.length=n2*s)(h1:∀v∈news,v.oneCell'=true)(hmax:len+n2<=17179869184)
 (hL:∀r,L.set k ⟨r.b,e,b.cs++news,r.n,true⟩=mk r)
 (h:∀r:OR (len+n2) s,aY P bl ops rest ⟨nt,(d,az r.b 0 (len+n2) r.cap)::t,mk r⟩ K):
 aY P bl ops (⟨some d,.call {callee:= .builtin .append,args:= #[x,y],argTypes:= #[T,T]},ty,pos,af,g⟩::rest) ⟨nt,t,L⟩ K:=by
 obtain⟨inf,i1,i2,i3,i5⟩:=zJ hi;subst i3;rcases Nat.eq_zero_or_pos n2 with h0|h0
 ·subst h0;refine Ud hT i1 hd hg hx hcap hy ?_;have hnw:news=[]:=List.eq_nil_of_length_eq_zero (by rw[hlen2];omega);have:=h ⟨b.base,b.n,cap,hcap,hn⟩;rw[<-hL,hnw,List.append_nil] at this;have hb:(⟨b.base,e,b.cs,b.n,true⟩:aG)=b:=by rw[<-he,<-ho]
  rw[show(⟨b.base,b.n,cap,hcap,hn⟩:OR (len+0) inf.size).b=b.base from rfl,show(⟨b.base,b.n,cap,hcap,hn⟩:OR (len+0) inf.size).n=b.n from rfl,hb] at this;have hset:L.set k b=L:=by
   obtain⟨q1,q2⟩:=List.getElem?_eq_some_iff.1 hk;rw[<-q2];exact List.set_getElem_self q1
  rw[hset] at this;exact this
 ·obtain⟨b2o,hb2⟩:=hb2.resolve_left (by omega);rw[hb2] at hy;exact Ug hi.2 k k2 news (fun r=>mk ⟨some r.g,r.n,r.cap,r.h,r.hn⟩) hT i1 i2 (by simpa using hs) hzs (by omega) hd hg hk ho he hlen hcap hn hx hk2 hnew hlen2 h0 hb2 hy h1 hmax (fun r=>hL ⟨some r.g,r.n,r.cap,r.h,r.hn⟩) (fun r=>h ⟨some r.g,r.n,r.cap,r.h,r.hn⟩)
end
end Go.Via
namespace Go.Via
variable[Mo]
open Go Go.RowKit
section
variable{P:Program}{bl:List Nat}{ops:Array Oper}{K:St->Prop}{rest:List Oper}{nt:Nat}{t:List (Nat×Value)}{L:List aG}{d:Nat}{ty:TypeId}{pos:String}{af:Array Edge}{g:Option (Nat×Bool)}{x y:Operand}
def yF{T:Nat}{j:Nat}{i:TI}{gg:Nat}(off fo:Nat){fs:Nat}(hd:Nat.blt d nt=true)(hg:ax ops ⟨some d,.fieldAddr T x j,ty,pos,af,g⟩ t=some true)(hx:ev t x=some (.pointer (some ⟨gg,off,none⟩)))(hi:eP P T i=true)
 (hf:i.flds[j]? =some (fo,fs+1)){off':Nat}(ho:off+fo=off')(h:aY P bl ops rest ⟨nt,(d,.pointer (some ⟨gg,off',none⟩))::t,L⟩ K):
 aY P bl ops (⟨some d,.fieldAddr T x j,ty,pos,af,g⟩::rest) ⟨nt,t,L⟩ K:=
 gq hd hg rfl (fun B a w hr=>by
 have h2:=hr.ev hx;obtain⟨fs',f,h3,h4,h5,h6⟩:=TQ hi hf;simp only at h5 h6;have hsz:(sizeOf f.type).run P w= .ok (fs+1) w:=by
  cases hq:P.info? f.type with
  |none=>rw[hq] at h6;simp at h6
  |some inf=>rw[hq] at h6;simp at h6;simp[sizeOf,typeInfo,hq,h6]
 subst ho;simp[execOp,h2,Instr.fieldAt,run_underlying h3,h4,Instr.sureAddr,fieldPlace,hsz,jW,h5]) h
end
def Dl{P:Program}{B:Bs}{Q:Exit->Act->World->Prop}{nt:Nat}{t:List (Nat×Value)}{L:List aG}{id:Nat}{l l':List Oper}{X:Type}(Tm:X->List (Nat×Value))(Lm:X->List aG)(E:List Nat)(n:Nat)(hm:P.follows .mixedOrders=true)
 (hc:(Region.noSelect l.toArray&&Bg l.toArray (Array.replicate l.toArray.size false) E&&decide (E.length+n=l.toArray.size))=true)(hl:E.map (fun i=>l.toArray.getD i default)=l')
 (h:aY P [] l.toArray l' ⟨nt,t,[]⟩ (fun s'=>zK P l.toArray (fun s'=>∃x:X,s'.nt=nt∧jX s'.t (Tm x)∧List.Perm s'.L (Lm x)) n (E.foldl (fun(x:Array Bool) i=>x.setIfInBounds i true) (Array.replicate l.toArray.size false)) ⟨nt,s'.t,L⟩))
 (hk:∀x,At B ⟨nt,Tm x,Lm x⟩ (Q .normal)):
 At B ⟨nt,t,L⟩ ((Code.region id l.toArray true).wp P Q):=fun a w hr=>by
 simp only[Bool.and_eq_true,decide_eq_true_eq] at hc;obtain⟨⟨h1,h2⟩,h3⟩:=hc;subst hl;refine wp_region_any hm ?_
 suffices hs:wpAny P .any l.toArray Q (E.length+n) (Array.replicate l.toArray.size false) a {w with drawn:=w.drawn+1} by rw[h3] at hs;exact hs
 refine su (Q:=vY (Q .normal)) (Q':=Q) (fun _ _ h=>h) (fun _ _ _ h=>h.elim) (fun⟨_,_,h⟩=>h.elim) _ _ _ _ ?_;refine zN (B:=B) (G:=fun t listed=>zK P l.toArray (fun s'=>∃x:X,s'.nt=nt∧jX s'.t (Tm x)∧List.Perm s'.L (Lm x)) n listed ⟨nt,t,L⟩) h1 (fun t listed a hG hrel=>OT (Q:=vY (Q .normal)) (fun s' a' w' ⟨x,q1,q2,q3⟩ hr'=>hk x a' w' (by
 have:=hr'.sub (t:=Tm x) fun d v hd=>q2.mem (d,v) (uG hd)
 rw[q1] at this;exact⟨this.df,this.size,this.tmp,this.mem.perm q3⟩)) _ _ _ _ _ hG hrel) E _ t a h2 h hr.drew
end Go.Via
namespace Go.Via
variable[Mo]
open Go Go.RowKit
def OW{P:Program}{B:Bs}{s:St}{Q:Exit->Act->World->Prop}{x y:Code}{nt:Nat}(T:List (Nat×Value))(LL:List aG)
 (h1:At B s (x.wp P (Exit.then (fun a w=>lh B ⟨nt,T,LL⟩ a w) Q)))(h2:At B ⟨nt,T,LL⟩ (y.wp P Q)):At B s ((Code.seq x y).wp P Q):=
 TS fun a w hr=>Code.wp_mono (fun e a w h=>by
 cases e with
 |normal=>exact h2 a w h
 |_=>exact h) (h1 a w hr)
def rC{B:Bs}{nt:Nat}{t T:List (Nat×Value)}{L LL:List aG}(lk:jX t T)(hw:eG L LL):At B ⟨nt,t,L⟩ (fun a w=>lh B ⟨nt,T,LL⟩ a w):=fun a w hr=>
 ⟨hr.df,hr.size,fun d v hd=>hr.tmp d v (lk.mem (d,v) (uG hd)),hw _ _ hr.mem⟩
end Go.Via
namespace Go.Via
variable[Mo]
open Go Go.RowKit
noncomputable abbrev gB(T:LJ)(own:Bool):aG:=⟨none,gE T,[],0,own⟩
section
variable{P:Program}{bl:List Nat}{ops:Array Oper}{K:St->Prop}{rest:List Oper}{nt:Nat}{t:List (Nat×Value)}{L:List aG}{d:Nat}{ty:TypeId}{pos:String}{af:Array Edge}{g:Option (Nat×Bool)}
end
def bf.setG{B:Bs}{w:World}{L:List aG}(h:bf B L w){j:Nat}{b:aG}(hj:L[j]? =some b)(hb:b.base=none)(T:LJ)(o:Bool)(hT:Hw T=true)
 (hf:∀p∈T,tV w p∧(o=true->B.own p.1)∧∀c∈L,c.own=true->c.base≠some p.1):bf B (L.set j (gB T o)) w:=by
 have hjl:=(List.getElem?_eq_some_iff.1 hj).1;have at_:∀(m:Nat) (c:aG),(L.set j (gB T o))[m]? =some c->c=gB T o∨(m≠j∧L[m]? =some c):=fun m c hm=>by
  by_cases e:j=m
  ·subst e;rw[List.getElem?_set_self hjl] at hm;cases hm;exact .inl rfl
  ·rw[List.getElem?_set_ne e] at hm;exact .inr ⟨fun h=>e h.symm,hm⟩
 have mem_:∀c∈L.set j (gB T o),c=gB T o∨c∈L:=fun c hc=>(List.mem_or_eq_of_mem_set hc).symm
 refine⟨h.bel,fun m c hm=>?_,fun i k g bi bk hik hi hk ho hg hgk=>?_,fun c hc hn U hU he p hp=>?_⟩
 ·rcases at_ m c hm with rfl|⟨_,h1⟩
  ·exact⟨fun g hg=>(by cases hg),fun _=>⟨rfl,rfl⟩⟩
  ·exact h.blk m c h1
 ·rcases at_ i bi hi with rfl|⟨_,h1⟩
  ·cases hg
  ·rcases at_ k bk hk with rfl|⟨_,h2⟩
   ·cases hgk
   ·exact h.apart i k g bi bk hik h1 h2 ho hg hgk
 ·rcases mem_ c hc with rfl|h1
  ·obtain rfl:=qgd hT hU he;obtain⟨a1,a2,a3⟩:=hf p hp;refine⟨a1,a2,fun c' hc' ho'=>?_⟩
   rcases mem_ c' hc' with rfl|h2
   ·intro e;cases e
   ·exact a3 c' h2 ho'
  ·obtain⟨a1,a2,a3⟩:=h.grp c h1 hn U hU he p hp;refine⟨a1,a2,fun c' hc' ho'=>?_⟩
   rcases mem_ c' hc' with rfl|h2
   ·intro e;cases e
   ·exact a3 c' h2 ho'
end Go.Via
