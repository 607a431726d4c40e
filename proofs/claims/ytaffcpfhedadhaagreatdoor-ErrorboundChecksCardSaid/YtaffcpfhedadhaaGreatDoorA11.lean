/-
  Part 11 (chapter 32): lemmas, walks. Each theorem states its own conditions.
-/
import GoSem.Core.World
import Derived.MapKept
import Derived.WalkKit
import Derived.WalkSpells
import Derived.WalkLawsBesides
import Derived.Deep.LoopGhost
import Derived.Deep.AppendSrc
import Derived.Laws.BytesArg
import Derived.Laws.CopyRow
import Derived.Laws.AppendOwn
import Derived.Deep.Upon
import Derived.Test.YtaffcpfhedadhaaGreatDoorA09
set_option linter.all false
set_option maxRecDepth 20000
set_option maxHeartbeats 20000000
section
variable{P Q:Prop}{T:Type}{R:T->Prop}
def YF(h:P:=by rename_i heq;exact⟨by unfold je;rw[heq],by unfold kz;rw[heq],by unfold isAl;rw[heq],by unfold isSto;rw[heq]⟩):=h
def YG(h:P:=by
 exfalso
 rcases hp with hp|hp
 ·rw[hM,show Yi bl p=true by simp[Yi,hp]] at hm;cases hm
 ·rw[hA,hp] at hA';cases hA'):=h
def qgp(h:P:=by refine⟨f,args,r1,r2.mono ?_⟩;rintro e w' ⟨x,rfl,hx,hown⟩;exact⟨x,rfl,hr.mem.joinF hx hown⟩):=h
def VP(h:P:=by simpa using h3):=h
end
namespace Go.Via
variable[Mo]
open Go Go.RowKit
def Eh(Q:Nat->Prop):List Nat->Prop
 |[]=>True
 |i::l=>Q i∧Eh Q l
def Eh.mem{Q:Nat->Prop}:∀{l:List Nat},Eh Q l->∀i∈l,Q i
 |[],_,i,h=>by cases h
 |j::l,hh,i,h=>by
  rcases List.mem_cons.1 h with rfl|h
  ·exact hh.1
  ·exact Eh.mem hh.2 i h
def zC(P:Program)(ops:Array Oper)(K:St->Prop):Nat->Array Bool->St->Prop
 |0,listed,s=>Region.ready .any ops listed=[]∧K s
 |n+1,listed,s=>∃l:List Nat,Region.ready .any ops listed=l∧l.isEmpty=false∧Eh (fun i=>∃o,ops[i]? =some o∧aU P [1000000] ops [o] s (fun s'=>zC P ops K n (listed.setIfInBounds i true) s')) l
def LQ{P:Program}{ops:Array Oper}{Q:Exit->Act->World->Prop}{K:St->Prop}{B:Bs}(hpost:∀s' a' w',K s'->kK B s' a' w'->Q .normal a' w'):
 ∀(n:Nat) (listed:Array Bool) (s:St) (a:Act) (w:World),zC P ops K n listed s->kK B s a w->wpAny P .any ops Q n listed a w
 |0,listed,s,a,w,h,hr=>⟨h.1,hpost _ _ _ h.2 hr⟩
 |n+1,listed,s,a,w,h,hr=>by
  obtain⟨l,h1,h2,h3⟩:=h;refine⟨fun h0=>?_,fun i hi=>?_⟩
  ·rw[h1] at h0;subst h0;cases h2
  ·rw[h1] at hi;obtain⟨o,ho,hs⟩:=h3.mem i hi;have:=iM.sound (K':=fun a' w'=>wpAny P .any ops Q n (listed.setIfInBounds i true) a' w') (Q:=Q) hs hr (fun s' a' w' hk hr'=>LQ hpost n _ s' a' w' hk hr')
   unfold wpOp;rw[ho];dsimp only
   split
   ·rename_i hw;rw[if_pos hw] at this;exact .inl this
   ·rename_i hw;rw[if_neg hw] at this;exact this
def qnx{P:Program}{B:Bs}{Q:Exit->Act->World->Prop}{nt:Nat}{t:List (Nat×Value)}{L:List aF}{id:Nat}{l:List Oper}(T:List (Nat×Value))(L':List aF)(hm:P.follows .mixedOrders=true)
 (h:zC P l.toArray (fun s'=>s'.nt=nt∧jL s'.t T∧s'.L=L') l.toArray.size (Array.replicate l.toArray.size false) ⟨nt,t,L⟩)(hk:At B ⟨nt,T,L'⟩ (Q .normal)):
 At B ⟨nt,t,L⟩ ((Code.region id l.toArray true).wp P Q):=fun a w hr=>by
 refine wp_region_any hm ?_;refine LQ (K:=fun s'=>s'.nt=nt∧jL s'.t T∧s'.L=L') (B:=B) (fun s' a' w' hK hrel=>?_) _ _ ⟨nt,t,L⟩ a _ h hr.drew;obtain⟨h1,h2,h3⟩:=hK;refine hk a' w' ?_;have:=hrel.sub (t:=T) fun d v hd=>h2.mem (d,v) (vI hd)
 rw[h1,h3] at this;exact this
def iZ{P:Program}{ops:Array Oper}{K:St->Prop}{n:Nat}{listed:Array Bool}{s:St}(l:List Nat)(h1:Region.ready .any ops listed=l)(h2:l.isEmpty=false)
 (h:Eh (fun i=>∃o,ops[i]? =some o∧aU P [1000000] ops [o] s (fun s'=>zC P ops K n (listed.setIfInBounds i true) s')) l):zC P ops K (n+1) listed s:=⟨l,h1,h2,h⟩
end Go.Via
namespace Go.Via
variable[Mo]
open Go Go.RowKit
def pY(P:Program)(bl:List Nat)(ops:Array Oper)(K:St->Prop):Nat->List Nat->St->Prop
 |0,Ts,s=>Ts=[]∧K s
 |n+1,Ts,s=>Eh (fun i=>∃o,ops[i]? =some o∧aU P bl ops [o] s (fun s'=>pY P bl ops K n (Ts.filter (· !=i)) s')) (Ts.filter fun i=> !Ts.any fun j=>waitsF ops ops.size i j)
def Eh.mono{Q Q':Nat->Prop}(h:∀i,Q i->Q' i):∀{l:List Nat},Eh Q l->Eh Q' l
 |[],_=>trivial
 |_::_,hh=>⟨h _ hh.1,Eh.mono h hh.2⟩
def pY.kc{P:Program}{bl:List Nat}{ops:Array Oper}{K:St->Prop}(hK:KC K):∀(n:Nat) (Ts:List Nat),KC (pY P bl ops K n Ts)
 |0,Ts=>fun s1 s2 he h=>⟨h.1,hK s1 s2 he h.2⟩
 |n+1,Ts=>fun s1 s2 he h=>Eh.mono (fun i ⟨o,h1,h2⟩=>⟨o,h1,aU.kc (pY.kc hK n _) [o] s1 s2 he h2⟩) h
def pY.mono{P:Program}{bl:List Nat}{ops:Array Oper}{K K':St->Prop}(hK:∀s,K s->K' s):∀(n:Nat) (Ts:List Nat) (s:St),pY P bl ops K n Ts s->pY P bl ops K' n Ts s
 |0,Ts,s,h=>⟨h.1,hK s h.2⟩
 |n+1,Ts,s,h=>Eh.mono (fun i ⟨o,h1,h2⟩=>⟨o,h1,h2.mono (fun s'=>pY.mono hK n _ s')⟩) h
def aU.append{P:Program}{bl:List Nat}{ops:Array Oper}{K:St->Prop}:∀{l l2:List Oper} {s:St},aU P bl ops l s (fun s'=>aU P bl ops l2 s' K)->aU P bl ops (l++l2) s K
 |[],_,_,h=>h
 |_::l,l2,_,h=>iM.mono (fun _ h1=>aU.append (l:=l) h1) h
structure YH(ops:Array Oper)(l:List Nat):Prop where
 lt:∀i∈l,i<ops.size
 nw:l.Pairwise (fun p i=>jo ops p i=true)
 self:∀i∈l,jo ops i i=true
 ed:∀i∈l,su ops i=true
 nodup:l.Nodup
def YH.sub{ops:Array Oper}{l l':List Nat}(h:YH ops l)(hs:l'.Sublist l):YH ops l':=
 ⟨fun i hi=>h.lt i (hs.subset hi),h.nw.sublist hs,fun i hi=>h.self i (hs.subset hi),fun i hi=>h.ed i (hs.subset hi),h.nodup.sublist hs⟩
def P8{P:Program}{bl:List Nat}{ops:Array Oper}{Q:Exit->Act->World->Prop}{K:St->Prop}{B:Bs}(hK:KC K)(hpost:∀s' a' w',K s'->kK B s' a' w'->Q .normal a' w'):
 ∀(n:Nat) (l Ts:List Nat) (listed:Array Bool) (s:St) (a:Act) (w:World),(l++Ts).length=n->YH ops (l++Ts)->l.Pairwise (fun p i=>uh bl ops p i=true)->(∀p∈l,∀i∈Ts,uh bl ops p i=true)->listed.size=ops.size->
  (∀j,j<ops.size->(listed.getD j true=false↔j∈l++Ts))->SX ops listed->aU P bl ops (l.map fun i=>ops.getD i default) s (pY P bl ops K Ts.length Ts)->kK B s a w->
  wpAny P .any ops Q n listed a w:=by
 intro n
 induction n with
 |zero=>
  intro l Ts listed s a w hn ho hok hokT hsz hl hc hr h;have h0:l++Ts=[]:=List.eq_nil_of_length_eq_zero hn;obtain⟨rfl,rfl⟩:=List.append_eq_nil_iff.1 h0;refine⟨?_,hpost _ _ _ hr.2 h⟩;rcases hh:Region.ready .any ops listed with _|⟨i,r⟩
  ·rfl
  ·exfalso
   obtain⟨h1,o,ho',_⟩:=mem_ready.1 (show i∈Region.ready .any ops listed by rw[hh];simp);have:=(hl i (Array.getElem?_eq_some_iff.1 ho').1).1 h1;simp at this
 |succ n ih=>
  intro l Ts listed s a w hn ho hok hokT hsz hl hc hr h;refine⟨fun h0=>?_,fun i hi=>?_⟩
  ·exfalso
   obtain⟨i0,rest,he⟩:∃i0 rest,l++Ts=i0::rest:=by
    cases hlt:l++Ts with
    |nil=>rw[hlt] at hn;cases hn
    |cons x y=>exact⟨x,y,rfl⟩
   rw[he] at ho hl;have hi0:=ho.lt i0 bz;have:i0∈Region.ready .any ops listed:=by
    refine mem_ready.2 ⟨(hl i0 hi0).2 bz,ops[i0],Array.getElem?_eq_getElem hi0,fun e hee hb=>?_⟩
    rcases hx:listed.getD e.on false with _|_
    ·exfalso
     have hself:=ho.self i0 bz;have hnw:∀j,j∈rest->jo ops i0 j=true:=fun j hj=>(List.pairwise_cons.1 ho.nw).1 j hj
     have key:∀j,jo ops i0 j=true->e.on≠j:=fun j hj e'=>by
      unfold jo at hj;rw[Array.getElem?_eq_getElem hi0] at hj;have:=(Array.all_eq_true'.1 hj) e hee;simp[hb,e'] at this
     rcases Nat.lt_or_ge e.on ops.size with hlt|hge
     ·have hun:listed.getD e.on true=false:=by
       have:e.on<listed.size:=qfm;simp[this] at hx ⊢;exact hx
      have:=(hl e.on hlt).1 hun;rcases List.mem_cons.1 this with h1|h1
      ·exact key i0 hself h1
      ·exact key e.on (hnw _ h1) rfl
     ·have hj:=ho.ed i0 bz;unfold su at hj;rw[Array.getElem?_eq_getElem hi0] at hj;have:=(Array.all_eq_true'.1 hj) e hee;simp[hb] at this;omega
    ·rfl
   rw[h0] at this;cases this
  ·obtain⟨hun,oi,hoi,hall⟩:=mem_ready.1 hi;have hilt:=(Array.getElem?_eq_some_iff.1 hoi).1;have hil:i∈l++Ts:=(hl i hilt).1 hun;have hoid:ops.getD i default=oi:=by simp[hoi]
   have hnowait:∀p,p∈l++Ts->waitsF ops ops.size i p=false:=fun p hp=>by
    rcases hw:waitsF ops ops.size i p with _|_
    ·rfl
    ·exfalso
     have h1:=rZ hc hw (fun o ho' e he hb=>qfn);have h2:=(hl p (ho.lt p hp)).2 hp;rw[SY h2] at h1;cases h1
   have pass:∀p,p∈l++Ts->uh bl ops p i=true->∃op,ops[p]? =some op∧je op=true∧xh bl oi=true∧kz op=false∧op.apart ops oi=true:=by
    intro p hp hpo;unfold uh at hpo;rw[hnowait p hp,Bool.false_or,hoi] at hpo;cases hop:ops[p]? with
    |none=>rw[hop] at hpo;cases hpo
    |some op=>
     rw[hop] at hpo;simp only[Bool.and_eq_true,Bool.not_eq_true'] at hpo;exact⟨op,rfl,hpo.1.1.1,hpo.1.1.2,hpo.1.2,hpo.2⟩
   have front:∀(pre post:List Nat) (K':St->Prop),KC K'->(∀p∈pre,p∈l++Ts∧uh bl ops p i=true)->aU P bl ops ((pre++i::post).map fun i=>ops.getD i default) s K'->
    iM P bl ops oi s (fun s'=>aU P bl ops ((pre++post).map fun i=>ops.getD i default) s' K'):=by
    intro pre post K' hK' hpre hr1;rw[List.map_append,List.map_cons,hoid] at hr1;rw[List.map_append];cases hpz:pre with
    |nil=>rw[hpz] at hr1;exact hr1
    |cons p0 pre0=>
     obtain⟨hp1,hp2⟩:=hpre p0 (by rw[hpz];simp);obtain⟨op0,_,_,hmi,_,_⟩:=pass p0 hp1 hp2;rw[<-hpz];refine aU.front hK' hmi ?_ hr1;intro q hq;obtain⟨p,hp,rfl⟩:=List.mem_map.1 hq;obtain⟨hp1,hp2⟩:=hpre p hp;obtain⟨op,hop,h1,h2,h3,h4⟩:=pass p hp1 hp2;have:ops.getD p default=op:=by simp[hop]
     rw[this];exact⟨h1,h3,h4⟩
   obtain⟨l',Ts',hsub,hlen,hmem,hsl,hst,hstep⟩:∃l' Ts':List Nat,(l'++Ts').Sublist (l++Ts)∧(l'++Ts').length=n∧(∀j,j∈l'++Ts'↔j∈l++Ts∧j≠i)∧l'.Sublist l∧(∀j∈Ts',j∈Ts)∧
    iM P bl ops oi s (fun s'=>aU P bl ops (l'.map fun i=>ops.getD i default) s' (pY P bl ops K Ts'.length Ts')):=by
    have hnd:=ho.nodup
    by_cases hi1:i∈l
    ·obtain⟨pre,post,rfl⟩:=List.append_of_mem hi1;refine⟨pre++post,Ts,?_,?_,fun j=>?_,List.Sublist.append (List.Sublist.refl _) (List.sublist_cons_self _ _),fun j hj=>hj,?_⟩
     ·exact List.Sublist.append (List.Sublist.append (List.Sublist.refl _) (List.sublist_cons_self _ _)) (List.Sublist.refl _)
     ·simp at hn ⊢;omega
     ·have h1:i∉pre++post++Ts:=by
       intro hm;rw[show pre++i::post++Ts=pre++i::(post++Ts) by simp] at hnd;have h2:=List.nodup_append.1 hnd;rw[List.append_assoc] at hm;rcases List.mem_append.1 hm with h3|h3
       ·exact h2.2.2 i h3 i bz rfl
       ·exact(List.nodup_cons.1 h2.2.1).1 h3
      constructor
      ·intro hj;refine⟨?_,fun e=>h1 (e▸hj)⟩
       simp at hj ⊢;rcases hj with h|h|h<;>simp[h]
      ·rintro⟨hj,hne⟩;simp at hj ⊢;rcases hj with h|h|h|h
       ·simp[h]
       ·exact absurd h hne
       ·simp[h]
       ·simp[h]
     ·exact front pre post _ (pY.kc hK _ _) (fun p hp=>⟨MK,(List.pairwise_append.1 hok).2.2 p hp i bz⟩) hr
    ·have hi2:i∈Ts:=by
      rcases List.mem_append.1 hil with h1|h1
      ·exact absurd h1 hi1
      ·exact h1
     have hndT:Ts.Nodup:=(List.nodup_append.1 hnd).2.1;obtain⟨pre,post,rfl⟩:=List.append_of_mem hi2;have hnot:i∉pre∧i∉post:=by
      have h2:=List.nodup_append.1 hndT;exact⟨fun h3=>h2.2.2 i h3 i bz rfl,(List.nodup_cons.1 h2.2.1).1⟩
     have hfil:(pre++i::post).filter (· !=i)=pre++post:=by
      rw[List.filter_append,List.filter_cons];simp only[bne_self_eq_false,Bool.false_eq_true,if_false];rw[List.filter_eq_self.2 (fun j hj=>by have:j≠i:=fun e=>hnot.1 (e▸hj);simpa using this),List.filter_eq_self.2 (fun j hj=>by have:j≠i:=fun e=>hnot.2 (e▸hj);simpa using this)]
     refine⟨l,pre++post,?_,?_,fun j=>?_,List.Sublist.refl _,fun j hj=>?_,?_⟩
     ·exact List.Sublist.append (List.Sublist.refl _) (List.Sublist.append (List.Sublist.refl _) (List.sublist_cons_self _ _))
     ·simp at hn ⊢;omega
     ·constructor
      ·intro hj;refine⟨?_,fun e=>?_⟩
       ·simp at hj ⊢;rcases hj with h|h|h<;>simp[h]
       ·subst e;simp at hj;rcases hj with h|h|h
        ·exact hi1 h
        ·exact hnot.1 h
        ·exact hnot.2 h
      ·rintro⟨hj,hne⟩;simp at hj ⊢;rcases hj with h|h|h|h
       ·simp[h]
       ·simp[h]
       ·exact absurd h hne
       ·simp[h]
     ·simp at hj ⊢;rcases hj with h|h<;>simp[h]
     ·have hr2:aU P bl ops ((l++[i]).map fun i=>ops.getD i default) s (pY P bl ops K (pre++post).length (pre++post)):=by
       rw[List.map_append];refine aU.append (hr.mono fun s' hs'=>?_);have hlen:(pre++i::post).length=(pre++post).length+1:=Et
       rw[hlen] at hs';have hs2:Eh _ _:=hs';have hmi:i∈(pre++i::post).filter (fun i'=> !(pre++i::post).any fun j=>waitsF ops ops.size i' j):=by
        refine List.mem_filter.2 ⟨bz,?_⟩;rw[Bool.not_eq_true',Bool.eq_false_iff];intro h1;obtain⟨j,hj,hw⟩:=List.any_eq_true.1 h1;rw[hnowait j (by simp at hj ⊢;rcases hj with h|h|h<;>simp[h])] at hw;cases hw
       obtain⟨o,ho1,ho2⟩:=hs2.mem i hmi;rw[hoi] at ho1;cases ho1;rw[hfil] at ho2;rw[List.map_singleton,hoid];exact ho2
      have:=front l [] _ (pY.kc hK _ _) (fun p hp=>⟨MK,hokT p hp i bz⟩) hr2
      simpa using this
   unfold wpOp;rw[hoi];dsimp only;have hS:=iM.sound (K':=wpAny P .any ops Q n (listed.setIfInBounds i true)) (Q:=Q) hstep h (fun s' a' w' hk hrel=>by
 refine ih l' Ts' (listed.setIfInBounds i true) s' a' w' hlen (ho.sub hsub) (hok.sublist hsl) (fun p hp j hj=>hokT p (hsl.subset hp) j (hst j hj)) (by simpa using hsz) ?_ ?_ hk hrel
 ·intro j hj;rw[hmem j]
  by_cases hij:i=j
  ·subst hij;have:i<listed.size:=by rw[hsz];exact hilt
   simp[this]
  ·rw[getD_set_ne true hij,hl j hj];simp[Ne.symm hij]
 ·intro j hj o hoj e he hb
  by_cases hij:i=j
  ·exact Yg
  ·rw[getD_set_ne false hij] at hj;exact getD_set_true (hc j hj o hoj e he hb))
   split
   ·rename_i hw;rw[if_pos hw] at hS;exact .inl hS
   ·rename_i hw;rw[if_neg hw] at hS;exact hS
def Nr(bl:List Nat)(ops:Array Oper)(perm T:List Nat):Bool:=
 decide ((perm++T).length=ops.size)&&(perm++T).all (fun i=>decide (i<ops.size))&&(List.range ops.size).all (fun i=>(perm++T).contains i)&&
 iO (uh bl ops) perm&&perm.all (fun p=>T.all fun i=>uh bl ops p i)&&iO (jo ops) (perm++T)&&(perm++T).all (fun i=>jo ops i i)&&(perm++T).all (fun i=>su ops i)&&iO (fun i j=>i !=j) (perm++T)
def qdD{P:Program}{bl:List Nat}{id:Nat}{ops:Array Oper}{Q:Exit->Act->World->Prop}{s:St}{B:Bs}{w:World}{a:Act}(perm T:List Nat){l:List Oper}{K:St->Prop}
 (hm:P.follows .mixedOrders=true)(hc:Nr bl ops perm T=true)(hl:perm.map (fun i=>ops.getD i default)=l)(hr:aU P bl ops l s (pY P bl ops K T.length T))
 (hpost:∀s' a' w',K s'->kK B s' a' w'->Q .normal a' w')(h:kK B s a w):(Code.region id ops true).wp P Q a w:=by
 simp only[Nr,Bool.and_eq_true,decide_eq_true_eq] at hc;obtain⟨⟨⟨⟨⟨⟨⟨⟨hlen,hlt⟩,hall⟩,hpo⟩,hpt⟩,hnw⟩,hself⟩,hed⟩,hnd⟩:=hc;have hOrd:YH ops (perm++T):=⟨fun i hi=>of_decide_eq_true (List.all_eq_true.1 hlt i hi),gK hnw,fun i hi=>List.all_eq_true.1 hself i hi,fun i hi=>List.all_eq_true.1 hed i hi,(gK hnd).imp (fun h=>pX)⟩
 subst hl;have hK:KC (fun s'=>∃s0,E8 s0 s'∧K s0):=fun s1 s2 he ⟨s0,h0,h1⟩=>⟨s0,h0.trans he,h1⟩
 refine wp_region_any hm ?_;refine P8 hK (fun s' a' w' ⟨s0,he,hk⟩ hrel=>hpost s0 a' w' hk (he.symm.rel hrel)) ops.size perm T _ s a _ hlen hOrd (gK hpo) (fun p hp i hi=>List.all_eq_true.1 (List.all_eq_true.1 hpt p hp) i hi) (by simp) ?_ ?_
  (hr.mono (fun s' hs'=>pY.mono (fun s1 h1=>⟨s1,E8.refl _,h1⟩) _ _ s' hs')) h.drew
 ·intro j hj;have:j∈perm++T:=by
   have:=List.all_eq_true.1 hall j (List.mem_range.2 hj);exact List.contains_iff_mem.1 this
  simp only[this,iff_true];simp[hj]
 ·intro j hj
  exact qfj
def vw{P:Program}{B:Bs}{Q:Exit->Act->World->Prop}{s:St}{id:Nat}{l l':List Oper}(bl perm T:List Nat)(hm:P.follows .mixedOrders=true)(hc:Nr bl l.toArray perm T=true)(hl:perm.map (fun i=>l.toArray.getD i default)=l')
 (h:aU P bl l.toArray l' s (pY P bl l.toArray (fun s'=>At B s' (Q .normal)) T.length T)):At B s ((Code.region id l.toArray true).wp P Q):=fun a w hr=>
 qdD (K:=fun s'=>At B s' (Q .normal)) perm T hm hc hl h (fun s' a' w' h1 h2=>h1 a' w' h2) hr
def bZ{P:Program}{bl:List Nat}{ops:Array Oper}{K:St->Prop}{n:Nat}{Ts:List Nat}{s:St}(l:List Nat)(hl:(Ts.filter fun i=> !Ts.any fun j=>waitsF ops ops.size i j)=l)
 (h:Eh (fun i=>∃o,ops[i]? =some o∧aU P bl ops [o] s (fun s'=>pY P bl ops K n (Ts.filter (· !=i)) s')) l):pY P bl ops K (n+1) Ts s:=by
 subst hl;exact h
end Go.Via
namespace Go.Via
def IZ{P:Program}{bl:List Nat}{ops:Array Oper}{K:St->Prop}{Ts:List Nat}{s:St}(h:Ts=[])(hk:K s):pY P bl ops K 0 Ts s:=⟨h,hk⟩
end Go.Via
namespace Go.Via
variable[Mo]
open Go Go.RowKit
def Ff(P:Program)(f:Nat)(L:List aF)(args:List Value)(X:Type)(res:X->Value)(new:X->List aF):Prop:=
 iP P f=true∧∀w:World,aX w L w->Calls P f args.toArray w fun e w'=>∃x,e= .returned (res x)∧aX w (new x) w'∧∀b∈new x,∀g,b.base=some g->w.heap.size<=g∨∃b0∈L,b0.base=some g
def LU{B:Bs}{w:World}{L:List aF}(h:aX B L w)(k:Nat){b:aF}(hk:L[k]? =some b)(ho:b.own=true):∀g,b.base=some g->B.own g:=fun g hg=>((h.blk k b hk).1 g hg).2 ho
def aF.un(b:aF):aF:={b with own:=false}
theorem aX.un{B:Bs}{w:World}{L:List aF}(h:aX B L w):aX B (L.map aF.un) w:=h.mono fun k b' hk=>by
 rw[List.getElem?_map,Option.map_eq_some_iff] at hk;obtain⟨b,h1,rfl⟩:=hk;exact⟨b,h1,⟨rfl,rfl,rfl,⟨b.cs.length,by simp[aF.un]⟩,fun h=>Ak⟩⟩
def bQ.weakA{P:Program}{f:Nat}{L:List aF}{args:List Value}{X:Type}{res:X->Value}{new:X->List aF}(h:bQ P f L args X res new)(ho:∀x,∀b∈new x,b.own=true):
 Ff P f L args X res (fun x=>(new x).map aF.un):=by
 refine⟨h.1,fun w hL=>(h.2 w hL).mono ?_⟩
 rintro e w' ⟨x,rfl,hx⟩;refine⟨x,rfl,hx.un,fun b hb g hg=> .inl ?_⟩
 obtain⟨b1,hb1,rfl⟩:=List.mem_map.1 hb;obtain⟨k,hk⟩:=List.mem_iff_getElem?.1 hb1;exact JQ (LU hx k hk (ho x b1 hb1) g hg)
def Ff.mono{P:Program}{f:Nat}{L:List aF}{args:List Value}{X Y:Type}{res:X->Value}{new:X->List aF}{res':Y->Value}{new':Y->List aF}(h:Ff P f L args X res new)(m:∀x,∃y,res x=res' y∧new x=new' y):
 Ff P f L args Y res' new':=by
 refine⟨h.1,fun w hL=>(h.2 w hL).mono ?_⟩
 rintro e w' ⟨x,rfl,hx,hf⟩;obtain⟨y,h1,h2⟩:=m x;exact⟨y,by rw[h1],by rw[<-h2];exact hx,by rw[<-h2];exact hf⟩
def aX.joinA{B:Bs}{w w':World}{L L0 new:List aF}(h:aX B L w)(h':aX w new w')(hc:∀b0∈L0,∀g,b0.base=some g->∃(k:Nat) (b:aF),L[k]? =some b∧b.base=some g∧b.own=false)
 (hf:∀b∈new,∀g,b.base=some g->w.heap.size<=g∨∃b0∈L0,b0.base=some g)(hng:∀b∈new,b.base=none->b.e<cO):aX B (L++new) w':=by
 have hs:=h.same h'.below;refine⟨hs.bel,fun k b hk=>?_,fun i j g bi bj hij hi hj ho hg hgj=>?_,hs.grp.app (h'.grp.base h.bel.le) (fun b hb hn T hT he p hp c hc' ho hg=>?_) (fun b hb hn T hT he=>absurd (he▸hng b hb hn) (ML T))⟩
 rotate_left 2
 ·exact qfi
 ·exact qfg
 ·rw[List.getElem?_append] at hi hj
  split at hi<;>split at hj
  ·exact hs.apart i j g bi bj hij hi hj ho hg hgj
  ·have h1:=h.lt hi hg;rcases hf bj (List.mem_of_getElem? hj) g hgj with h2|⟨b0,h2,h3⟩
   ·omega
   ·obtain⟨k,b,h4,h5,h6⟩:=hc b0 h2 g h3
    by_cases e:i=k
    ·subst e;rw[hi] at h4;cases h4;rw[ho] at h6;cases h6
    ·exact h.apart i k g bi b e hi h4 ho hg h5
  ·exact qfl
  ·exact h'.apart _ _ g bi bj ae hi hj ho hg hgj
def YI(L:List aF)(k:Nat):Bool:=match L[k]? with
 |some b=> !b.own
 |none=>false
def Ns{L:List aF}:∀{ks:List Nat} {L0:List aF},jf L (ks.map some) L0->ks.all (YI L)=true->∀b0∈L0,∀g,b0.base=some g->∃(k:Nat) (b:aF),L[k]? =some b∧b.base=some g∧b.own=false
 |[],[],_,_,b0,h,_,_=>by cases h
 |[],_::_,hp,_,_,_,_,_=>hp.elim
 |_::_,[],hp,_,_,_,_,_=>hp.elim
 |k::ks,c::L0,hp,ho,b0,h,g,hg=>by
  rw[List.all_cons,Bool.and_eq_true] at ho;rcases List.mem_cons.1 h with rfl|h
  ·obtain⟨b,h1,h2⟩:=hp.1;have h3:=ho.1;unfold YI at h3;rw[h1] at h3;exact⟨k,b,h1,by rw[<-h2.1];exact hg,VP⟩
  ·exact Ns hp.2 ho.2 b0 h g hg
section
variable{P:Program}{bl:List Nat}{ops:Array Oper}{K:St->Prop}{rest:List Oper}{nt:Nat}{t:List (Nat×Value)}{L:List aF}{d:Nat}{ty:TypeId}{pos:String}{af:Array Edge}{g:Option (Nat×Bool)}{x y:Operand}
def yQ{f:Nat}{args:List Operand}{ts:Array TypeId}(vs:List Value){L0:List aF}{X:Type}{res:X->Value}{new:X->List aF}(ks:List Nat)(hd:Nat.blt d nt=true)(hg:az ops ⟨some d,.call {callee:= .value (.func f),args:=args.toArray,argTypes:=ts},ty,pos,af,g⟩ t=some true)
 (hv:args.map (ev t)=vs.map some)(hc:Ff P f L0 vs X res new)(hp:jf L (ks.map some) L0)(ho:(L0.all fun b=> !b.own)=true)(hn:ks.all (YI L)=true)
 (h:∀x,aU P bl ops rest ⟨nt,(d,res x)::t,L++new x⟩ K)(hA:Lu bl=false:=by rfl)
 (hng:∀x,∀b∈new x,b.base=none->b.e<cO:=by intro x b hb _;(try simp only[List.mem_cons,List.not_mem_nil,or_false] at hb);first|(subst hb;exact Nat.le_of_ble_eq_true rfl)|(rcases hb with rfl|rfl<;>exact Nat.le_of_ble_eq_true rfl)|(rw[List.mem_singleton.1 hb];exact Nat.le_of_ble_eq_true rfl)):
 aU P bl ops (⟨some d,.call {callee:= .value (.func f),args:=args.toArray,argTypes:=ts},ty,pos,af,g⟩::rest) ⟨nt,t,L⟩ K:=
 Gx hd hg rfl (X:=X) (res:=res) (new:=new) (qpY (s:=⟨nt,t,L⟩) rfl hv hc.1 fun B w hL=>(hc.2 w (hL.asArgs ks hp (fun b hb=>VJ))).mono (by
 rintro e w' ⟨x,rfl,hx,hf⟩;exact⟨x,rfl,hL.joinA hx (Ns hp hn) hf (hng x)⟩)) (fun h1=>by rw[hA] at h1;cases h1) fun x=>h x
end
end Go.Via
namespace Go.Via
variable[Mo]
open Go Go.RowKit
def aX.perm{B:Bs}{w:World}{L L':List aF}(hp:List.Perm L L')(h:aX B L w):aX B L' w:=by
 have key:L.Pairwise (fun bi bj=>(bi.own=true∨bj.own=true)->∀g,bi.base=some g->bj.base≠some g):=by
  rw[List.pairwise_iff_getElem];intro i j hi hj hij ho g hg hgj;rcases ho with ho|ho
  ·exact h.apart i j g _ _ ae (List.getElem?_eq_getElem hi) (List.getElem?_eq_getElem hj) ho hg hgj
  ·exact h.apart j i g _ _ ae (List.getElem?_eq_getElem hj) (List.getElem?_eq_getElem hi) ho hgj hg
 have key':=(hp.pairwise_iff (fun {x y} hxy ho g hy hx=>hxy ho.symm g hx hy)).1 key;rw[List.pairwise_iff_getElem] at key';refine⟨h.bel,fun k b hk=>?_,fun i j g bi bj hij hi hj ho hg hgj=>?_,h.grp.mem fun b hb=>hp.symm.subset hb⟩
 ·have hm:=hp.symm.subset (List.mem_of_getElem? hk);obtain⟨m,hm⟩:=List.mem_iff_getElem?.1 hm;exact h.blk m b hm
 ·obtain⟨hi1,rfl⟩:=List.getElem?_eq_some_iff.1 hi;obtain⟨hj1,rfl⟩:=List.getElem?_eq_some_iff.1 hj;rcases Nat.lt_or_gt_of_ne hij with c|c
  ·exact key' i j hi1 hj1 c (.inl ho) g hg hgj
  ·exact key' j i hj1 hi1 c (.inr ho) g hgj hg
def qbD(s:St)(dst:Option Nat)(v:Value):(s.put dst v).L=s.L:=Qz
structure uP(s s':St):Prop where
 nt:s.nt=s'.nt
 L:List.Perm s.L s'.L
 look:∀d,look s.t d=look s'.t d
def uP.rel{s s':St}(h:uP s s'){B:Bs}{w:World}{a:Act}(r:kK B s' a w):kK B s a w:=
 ⟨r.df,r.size.trans h.nt.symm,fun d v hd=>r.tmp d v (by rw[<-h.look d];exact hd),r.mem.perm h.L.symm⟩
def uP.refl(s:St):uP s s:=⟨rfl,List.Perm.refl _,fun _=>rfl⟩
theorem uP.symm{s s':St}(h:uP s s'):uP s' s:=⟨h.nt.symm,h.L.symm,fun d=>(h.look d).symm⟩
def uP.trans{s s' s'':St}(h:uP s s')(k:uP s' s''):uP s s'':=⟨h.nt.trans k.nt,h.L.trans k.L,fun d=>(h.look d).trans (k.look d)⟩
theorem uP.put{s s':St}(h:uP s s')(dst:Option Nat)(sv:Value)(new:List aF):uP (({s with L:=s.L++new}:St).put dst sv) (({s' with L:=s'.L++new}:St).put dst sv):=by
 cases dst with
 |none=>exact⟨h.nt,h.L.append_right _,h.look⟩
 |some d=>
  refine⟨h.nt,h.L.append_right _,fun k=>?_⟩
  by_cases e:d=k
  ·subst e;simp[St.put,dO]
  ·simp[St.put,cZ e,h.look k]
def uP.put0{s s':St}(h:uP s s')(dst:Option Nat)(sv:Value):uP (s.put dst sv) (s'.put dst sv):=by
 have:=h.put dst sv []
 simpa using this
theorem uP.wanted{s s':St}(h:uP s s')(ops:Array Oper)(o:Oper):az ops o s.t=az ops o s'.t:=by
 unfold az
 split
 ·rfl
 ·split
  ·rw[h.look]
  ·rfl
def KCP(K:St->Prop):Prop:=∀s s',uP s s'->K s->K s'
def KCP.kc{K:St->Prop}(h:KCP K):KC K:=fun s s' he=>h s s' ⟨he.nt,he.L▸List.Perm.refl _,he.look⟩
theorem Nu:∀{bl:List Nat} {L:List aF},IE bl=false->blank bl L=L
 |[],L,_=>rfl
 |k::bl,L,h=>by
  unfold IE at h;rw[List.any_cons,Bool.or_eq_false_iff] at h;unfold blank;rw[h.1];exact Nu (bl:=bl) h.2
theorem TB{bl:List Nat}{s:St}(h:IE bl=false):s.bk bl=s:=by show St.mk s.nt s.t (blank bl s.L)=s;rw[Nu h]
def iM.congrP{P:Program}{bl:List Nat}{ops:Array Oper}{o:Oper}{s s':St}{K:St->Prop}(hA:Lu bl=true)(hS:IE bl=false)(hK:KCP K)(h:uP s s')(hs:iM P bl ops o s K):iM P bl ops o s' K:=by
 obtain⟨h0,g,hg,hh⟩:=hs;refine⟨by rw[<-h.nt];exact h0,g,by rw[<-h.wanted];exact hg,?_⟩;rcases hh with⟨h1,h2⟩|⟨h1,⟨h2,sv,h3,h4⟩|⟨h2,X,res,new,h3,hF,h4⟩|⟨hm,hA',hm',X,nx,h3,h4⟩|⟨hm,hd,L',h3,h5,h4⟩|⟨hA',e,cs,h3,h4⟩|⟨hC,hbS,X,res,nL,h3,h5,h4⟩⟩
 ·exact .inl ⟨h1,hK _ _ (h.put0 _ _) h2⟩
 ·refine .inr ⟨h1,.inl ⟨h2,sv,⟨fun B a w hr=>?_,fun h5 h6=>qpT⟩,hK _ _ (h.put0 _ _) h4⟩⟩
  have h3:=h3.1;rw[TB hS] at hr h3;exact h3 B a w (h.rel hr)
 ·obtain⟨hF1,hX⟩:=hF hA;refine .inr ⟨h1,.inr (.inl ⟨h2,X,res,new,fun B a w hr=>?_,fun hb=>⟨fun B a w hr=>hF1 B a w (h.rel hr),hX⟩,fun x=>hK _ _ (h.put _ _ _) (h4 x)⟩)⟩
  obtain⟨f,args,r1,r2⟩:=hF1 B a w (h.rel hr);exact qgp
 ·exact .inr ⟨h1,.inr (.inr (.inl ⟨hm,hA',hm',X,nx,fun B a w hr=>h3 B a w (h.rel hr),h4⟩))⟩
 ·exact .inr ⟨h1,.inr (.inr (.inr (.inl ⟨hm,hd,L',fun B a w hr=>h3 B a w (h.rel hr),(fun hb=>by rw[hS] at hb;cases hb),hK {s with L:=L'} {s' with L:=L'} ⟨h.nt,List.Perm.refl _,h.look⟩ h4⟩)))⟩
 ·exact .inr ⟨h1,.inr (.inr (.inr (.inr (.inl ⟨hA',e,cs,by rw[<-MN h.look];exact h3,fun g=>hK _ _ (h.put _ _ _) (h4 g)⟩))))⟩
 ·rw[hS] at hbS;cases hbS
def aU.kcP{P:Program}{bl:List Nat}{ops:Array Oper}{K:St->Prop}(hA:Lu bl=true)(hS:IE bl=false)(hK:KCP K):∀l:List Oper,KCP (fun s=>aU P bl ops l s K)
 |[]=>hK
 |o::l=>fun _ _ h hs=>iM.congrP hA hS (aU.kcP hA hS hK l) h hs
theorem qbE{o:Oper}(h:je o=true∨isAl o=true):isSto o=false:=by
 unfold isSto
 split<;>first|rfl|(rename_i heq
                    rcases h with h|h
                    ·unfold je at h;rw[heq] at h;cases h
                    ·unfold isAl at h;rw[heq] at h;cases h)
def iM.laterA{P:Program}{bl:List Nat}{ops:Array Oper}{p:Oper}{s:St}{K:St->Prop}{dst:Option Nat}{u:Value}{E:List aF}(hA:Lu bl=true)(hS:IE bl=false)(hp:je p=true∨isAl p=true)(hM:LC bl=false)
 (hd:∀d,dst=some d->d<s.nt)(hl:∀d,dst=some d->d∉p.looksAt ops)(hne:∀d,p.dst=some d->dst≠some d)
 (h:iM P bl ops p s (fun s1=>∀s2,uP (({s1 with L:=s1.L++E}:St).put dst u) s2->K s2)):iM P bl ops p (({s with L:=s.L++E}:St).put dst u) K:=by
 have hns:∀cs b,p.op≠ .select cs b:=fun cs b e=>by
  rcases hp with hp|hp
  ·unfold je at hp;rw[e] at hp;cases hp
  ·unfold isAl at hp;rw[e] at hp;cases hp
 have hn:(({s with L:=s.L++E}:St).put dst u).nt=s.nt:=Qz
 have hLL:(({s with L:=s.L++E}:St).put dst u).L=s.L++E:=Qz
 have comm:∀(x:Value) (new:List aF),uP (({(({s with L:=s.L++new}:St).put p.dst x) with L:=(({s with L:=s.L++new}:St).put p.dst x).L++E}:St).put dst u)
  (({(({s with L:=s.L++E}:St).put dst u) with L:=(({s with L:=s.L++E}:St).put dst u).L++new}:St).put p.dst x):=by
  intro x new;have e1:(({s with L:=s.L++new}:St).put p.dst x).L=s.L++new:=Vr
  refine⟨?_,?_,?_⟩
  ·cases p.dst<;>cases dst<;>rfl
  ·have a1:=(qbD ({(({s with L:=s.L++new}:St).put p.dst x) with L:=(({s with L:=s.L++new}:St).put p.dst x).L++E}:St) dst u).trans (congrArg (· ++E) (qbD ({s with L:=s.L++new}:St) p.dst x))
   have a2:=(qbD ({(({s with L:=s.L++E}:St).put dst u) with L:=(({s with L:=s.L++E}:St).put dst u).L++new}:St) p.dst x).trans (congrArg (· ++new) (qbD ({s with L:=s.L++E}:St) dst u))
   have a3:List.Perm (s.L++new++E) (s.L++E++new):=by
    rw[List.append_assoc,List.append_assoc];exact List.Perm.append_left _ List.perm_append_comm
   exact(List.Perm.of_eq a1).trans (a3.trans (List.Perm.of_eq a2.symm))
  ·intro d;cases hp:p.dst with
   |none=>cases dst<;>simp[St.put]
   |some dp=>
    cases dst with
    |none=>simp[St.put]
    |some di=>
     have hne':di≠dp:=fun e=>hne dp hp (by rw[e])
     simp only[St.put]
     by_cases e1:di=d
     ·subst e1;rw[dO,cZ (Ne.symm hne'),dO]
     ·rw[cZ e1]
      by_cases e2:dp=d
      ·subst e2;rw[dO,dO]
      ·rw[cZ e2,cZ e2,cZ e1]
 obtain⟨h0,g,hg,hh⟩:=h;refine⟨qa7,g,?_,?_⟩
 ·have:=tu (ops:=ops) (o:=p) (s:={s with L:=s.L++E}) (dst:=dst) (v:=u) hl
  rw[this];exact hg
 have c0:∀(x:Value),(({s with L:=s.L++[]}:St).put p.dst x)=s.put p.dst x:=fun x=>bz
 have c1:∀(x:Value),({(({s with L:=s.L++E}:St).put dst u) with L:=(({s with L:=s.L++E}:St).put dst u).L++[]}:St).put p.dst x=(({s with L:=s.L++E}:St).put dst u).put p.dst x:=fun x=>bz
 have comm0:∀(x:Value),uP (({s.put p.dst x with L:=(s.put p.dst x).L++E}:St).put dst u) ((({s with L:=s.L++E}:St).put dst u).put p.dst x):=fun x=>by
  have:=comm x [];rw[c0,c1] at this;exact this
 have back:∀(B:Bs) (a:Act) (w:World),kK B (({s with L:=s.L++E}:St).put dst u) a w->∃v,kK B s (a.put dst v) w∧execOp (a.put dst v).eval p=execOp a.eval p:=fun B a w hr=>by
  obtain⟨v,hv⟩:=kK.putBack (s:=s) (new:=E) hd hr;exact⟨v,hv,execOp_put p hns a dst v hl⟩
 rcases hh with⟨h1,h2⟩|⟨h1,⟨h2,sv,h3,h4⟩|⟨h2,X,res,new,h3,hF,h4⟩|⟨hm,hA',hm',X,nx,h3,h4⟩|⟨hm,hd',L',h3,h5,h4⟩|⟨hA',e,cs,h3,h4⟩|⟨hC,hbS,X,res,nL,h3,h5,h4⟩⟩
 ·exact .inl ⟨h1,h2 _ (comm0 _)⟩
 ·refine .inr ⟨h1,.inl ⟨h2,sv,⟨fun B a w hr=>?_,fun h5 h6=>by rw[DI (s:={s with L:=s.L++E}) hl];exact h3.2 h5 h6⟩,h4 _ (comm0 _)⟩⟩
  have h3:=h3.1;rw[TB hS] at hr h3;obtain⟨v,hv,he⟩:=back B a w hr;have:=h3 B _ w hv
  rwa [he] at this
 ·obtain⟨hF1,hX⟩:=hF hA;have hFl:Gq P p (({s with L:=s.L++E}:St).put dst u) X res new:=fun B a w hr=>by
   obtain⟨v,hv,he⟩:=back B a w hr;have:=hF1 B _ w hv
   rwa [he] at this
  refine .inr ⟨h1,.inr (.inl ⟨h2,X,res,new,fun B a w hr=>?_,fun _=>⟨hFl,hX⟩,fun x=>h4 x _ (comm _ _)⟩)⟩
  obtain⟨f,args,r1,r2⟩:=hFl B a w hr;exact qgp
 ·exact YG
 ·rw[qbE hp] at hm;cases hm
 ·exact .inr ⟨h1,.inr (.inr (.inr (.inr (.inl ⟨hA',e,cs,by rw[MM (s:={s with L:=s.L++E}) hl];exact h3,fun g=>h4 g _ (comm _ _)⟩))))⟩
 ·rw[hS] at hbS;cases hbS
theorem iM.some{P:Program}{bl:List Nat}{ops:Array Oper}{p:Oper}{s:St}{K:St->Prop}(hS:IE bl=false)(hA:Lu bl=true)(hp:je p=true∨isAl p=true)(hM:LC bl=false)(h:iM P bl ops p s K):
 ∃x new,K (({s with L:=s.L++new}:St).put p.dst x):=by
 obtain⟨h0,g,hg,hh⟩:=h;rcases hh with⟨h1,h2⟩|⟨h1,⟨h2,sv,h3,h4⟩|⟨h2,X,res,new,h3,hF,h4⟩|⟨hm,hA',hm',X,nx,h3,h4⟩|⟨hm,hd',L',h3,h5,h4⟩|⟨hA',e,cs,h3,h4⟩|⟨hC,hbS,X,res,nL,h3,h5,h4⟩⟩
 ·exact⟨undef,[],Gu⟩
 ·exact⟨sv,[],by simpa using h4⟩
 ·obtain⟨_,⟨x⟩⟩:=hF hA;exact⟨_,_,h4 x⟩
 ·exact YG
 ·rw[qbE hp] at hm;cases hm
 ·exact⟨_,_,h4 0⟩
 ·rw[hS] at hbS;cases hbS
def iM.form{P:Program}{bl:List Nat}{ops:Array Oper}{p:Oper}{s:St}{K:St->Prop}(hS:IE bl=false)(hA:Lu bl=true)(hp:je p=true∨isAl p=true)(hM:LC bl=false)(h:iM P bl ops p s K):
 iM P bl ops p s (fun s1=>K s1∧∃x new,s1=(({s with L:=s.L++new}:St).put p.dst x)):=by
 obtain⟨h0,g,hg,hh⟩:=h;refine⟨h0,g,hg,?_⟩;rcases hh with⟨h1,h2⟩|⟨h1,⟨h2,sv,h3,h4⟩|⟨h2,X,res,new,h3,hF,h4⟩|⟨hm,hA',hm',X,nx,h3,h4⟩|⟨hm,hd',L',h3,h5,h4⟩|⟨hA',e,cs,h3,h4⟩|⟨hC,hbS,X,res,nL,h3,h5,h4⟩⟩
 ·exact .inl ⟨h1,h2,undef,[],bz⟩
 ·exact .inr ⟨h1,.inl ⟨h2,sv,h3,h4,sv,[],bz⟩⟩
 ·exact .inr ⟨h1,.inr (.inl ⟨h2,X,res,new,h3,hF,fun x=>⟨h4 x,_,_,rfl⟩⟩)⟩
 ·exact YG
 ·rw[qbE hp] at hm;cases hm
 ·exact .inr ⟨h1,.inr (.inr (.inr (.inr (.inl ⟨hA',e,cs,h3,fun g=>⟨h4 g,_,_,rfl⟩⟩))))⟩
 ·rw[hS] at hbS;cases hbS
def aU.swapA{P:Program}{bl:List Nat}{ops:Array Oper}{p i:Oper}{rest:List Oper}{s:St}{K:St->Prop}(hA:Lu bl=true)(hS:IE bl=false)(hM:LC bl=false)(hK:KCP K)(hp:je p=true∨isAl p=true)(hi:isAl i=true)
 (hap:p.apart ops i=true)(h:aU P bl ops (p::i::rest) s K):aU P bl ops (i::p::rest) s K:=by
 obtain⟨ap1,ap2,ap3⟩:=Oper.apart_spec hap;have h':iM P bl ops p s (fun s'=>iM P bl ops i s' (fun s2=>aU P bl ops rest s2 K)):=h;have hne:∀d,p.dst=some d->i.dst≠some d:=ap2;have hw:∀(x:Value) (new:List aF),az ops i (({s with L:=s.L++new}:St).put p.dst x).t=az ops i s.t:=fun x new=>tu (s:={s with L:=s.L++new}) ap1
 have hci:kz i=false:=by
  unfold isAl at hi;unfold kz
  split at hi
  ·rename_i heq;rw[heq]
  ·rename_i heq;rw[heq]
  ·cases hi
 have what:∀{s1:St},iM P bl ops i s1 (fun s2=>aU P bl ops rest s2 K)->(∃x new,s1=(({s with L:=s.L++new}:St).put p.dst x))->
  (∀d,i.dst=some d->d<s.nt)∧((az ops i s.t=some false∧aU P bl ops rest (s1.put i.dst undef) K)∨
 (az ops i s.t=some true∧∃e cs,Bh P s.t i=some (e,cs)∧∀g,aU P bl ops rest (({s1 with L:=s1.L++[alB g e cs]}:St).put i.dst (alV i g)) K)):=by
  rintro s1 ⟨k0,g,hk,hh⟩ ⟨x,new,rfl⟩;rw[hw] at hk;refine⟨fun d hd=>by have:=k0 d hd;rwa [show(({s with L:=s.L++new}:St).put p.dst x).nt=s.nt by cases p.dst<;>rfl] at this,?_⟩
  rcases hh with⟨rfl,h2⟩|⟨rfl,⟨h2,sv,h3,h4⟩|⟨h2,X,res,new,h3,hF,h4⟩|⟨hm,hA',hm',X,nx,h3,h4⟩|⟨hm,hd',L',h3,h5,h4⟩|⟨hA',e,cs,h3,h4⟩|⟨hC,hbS,X,res,nL,h3,h5,h4⟩⟩
  ·exact .inl ⟨hk,h2⟩
  ·rw[hA,hi] at h2;cases h2
  ·rw[hci] at h2;cases h2
  ·rw[hA,hi] at hA';cases hA'
  ·rw[qbE (.inr hi)] at hm;cases hm
  ·exact .inr ⟨hk,e,cs,by rw[<-MM (s:={s with L:=s.L++new}) ap1];exact h3,h4⟩
  ·rw[hS] at hbS;cases hbS
 have hf:=h'.form hS hA hp hM;obtain⟨x0,new0,k0,kf⟩:=hf.some hS hA hp hM;obtain⟨hb,hcase⟩:=what k0 kf;rcases hcase with⟨hk,_⟩|⟨hk,e,cs,hal,_⟩
 ·refine⟨hb,false,hk,.inl ⟨rfl,?_⟩⟩;have e:s.put i.dst undef=({s with L:=s.L++[]}:St).put i.dst undef:=bz
  rw[e];refine iM.laterA hA hS hp hM hb ap3 hne (hf.mono ?_);rintro s1 ⟨hs1,hform⟩ s2 he;rcases(what hs1 hform).2 with⟨_,h2⟩|⟨h2,_⟩
  ·refine aU.kcP hA hS hK rest _ _ he ?_;have e:s1.put i.dst undef=({s1 with L:=s1.L++[]}:St).put i.dst undef:=bz
   rw[<-e];exact h2
  ·rw[hk] at h2;cases h2
 ·refine⟨hb,true,hk,.inr ⟨rfl,.inr (.inr (.inr (.inr (.inl ⟨hi,e,cs,hal,fun gg=>?_⟩))))⟩⟩;refine iM.laterA hA hS hp hM hb ap3 hne (hf.mono ?_);rintro s1 ⟨hs1,hform⟩ s2 he;rcases(what hs1 hform).2 with⟨h2,_⟩|⟨_,e',cs',hal',h2⟩
  ·rw[hk] at h2;cases h2
  ·rw[hal] at hal';cases hal';exact aU.kcP hA hS hK rest _ _ he (h2 gg)
def qdE{o:Oper}(hi:Bi o=true):je o=true∧kz o=false∧isAl o=false∧isSto o=false:=by
 unfold Bi at hi
 split at hi
 ·exact YF
 ·exact YF
 ·exact YF
 ·cases hi
def aU.swapQ{P:Program}{bl:List Nat}{ops:Array Oper}{p i:Oper}{rest:List Oper}{s:St}{K:St->Prop}(hA:Lu bl=true)(hS:IE bl=false)(hM:LC bl=false)(hK:KCP K)(hp:isSto p=true∨isAl p=true)(hpg:p.guard=none)(hi:Bi i=true)
 (hap:p.apart ops i=true)(h:aU P bl ops (p::i::rest) s K):aU P bl ops (i::p::rest) s K:=by
 obtain⟨ap1,ap2,ap3⟩:=Oper.apart_spec hap;have h':iM P bl ops p s (fun s'=>iM P bl ops i s' (fun s2=>aU P bl ops rest s2 K)):=h;obtain⟨h0,g,hg,hh⟩:=h';have hg1:g=true:=by
  unfold az at hg;rw[hpg] at hg;simpa using hg.symm
 subst hg1;have hnp:(Lu bl&&(isAl p||isSto p))=false->False:=fun h1=>by rcases hp with hp|hp<;>rw[hA,hp] at h1<;>simp at h1
 have hcp:kz p=false:=by
  rcases hp with hp|hp
  ·unfold isSto at hp
   split at hp<;>first|(cases hp;done)|(rename_i heq;unfold kz;rw[heq])
  ·unfold isAl at hp
   split at hp
   ·rename_i heq;unfold kz;rw[heq]
   ·rename_i heq;unfold kz;rw[heq]
   ·cases hp
 obtain⟨m1,m2,m3,m4⟩:=qdE hi;have hns:∀cs b,p.op≠ .select cs b:=fun cs b e=>by
  rcases hp with hp|hp
  ·unfold isSto at hp;rw[e] at hp;cases hp
  ·unfold isAl at hp;rw[e] at hp;cases hp
 have hwp:∀s':St,az ops p s'.t=some true:=fun s'=>by unfold az;rw[hpg]
 have what:∀{s1:St},iM P bl ops i s1 (fun s2=>aU P bl ops rest s2 K)->s1.nt=s.nt->(az ops i s1.t=az ops i s.t)->oq P s1.t i=oq P s.t i->
  (∀d,i.dst=some d->d<s.nt)∧((az ops i s.t=some false∧aU P bl ops rest (s1.put i.dst undef) K)∨(az ops i s.t=some true∧∃v,oq P s.t i=some v∧aU P bl ops rest (s1.put i.dst v) K)):=by
  rintro s1 ⟨k0,gi,hgi,kk⟩ e1 e2 e3;rw[e2] at hgi;refine⟨fun d hd=>by rw[<-e1];exact k0 d hd,?_⟩;rcases kk with⟨h1,h2⟩|⟨h1,⟨h2,sv,q3,q4⟩|⟨h2,X,res,new,q3,hF,q4⟩|⟨qm,hA',qm',X,nx,q3,q4⟩|⟨qm,qd,L'',q3,q5,q4⟩|⟨hA',e,cs,q3,q4⟩|⟨hC,hbS,X,res,nL,q3,q5,q4⟩⟩
  ·exact .inl ⟨by rw[hgi,h1],h2⟩
  ·exact .inr ⟨by rw[hgi,h1],sv,by rw[<-e3];exact q3.2 hA hi,q4⟩
  ·rw[m2] at h2;cases h2
  ·rw[hM,show Yi bl i=true by simp[Yi,m1]] at qm;cases qm
  ·rw[m4] at qm;cases qm
  ·rw[m3] at hA';cases hA'
  ·rw[hS] at hbS;cases hbS
 have ahead:∀(v:Value),(az ops i s.t=some false∧v=undef∨az ops i s.t=some true∧oq P s.t i=some v)->(∀d,i.dst=some d->d<s.nt)->aU P bl ops (p::rest) (s.put i.dst v) K->aU P bl ops (i::p::rest) s K:=by
  intro v hv hb hr;rcases hv with⟨h1,rfl⟩|⟨h1,h2⟩
  ·exact⟨hb,false,h1,.inl ⟨rfl,hr⟩⟩
  ·exact⟨hb,true,h1,.inr ⟨rfl,.inl ⟨by rw[m3,m4];simp,v,⟨by rw[TB hS];exact Vu h2,fun _ _=>h2⟩,hr⟩⟩⟩
 rcases hh with⟨h1,_⟩|⟨_,⟨h2,sv,h3,h4⟩|⟨h2,X,res,new,h3,hF,h4⟩|⟨hm,hA',hm',X,nx,h3,h4⟩|⟨hm,hd,L',h3,h5,h4⟩|⟨hA',e,cs,h3,h4⟩|⟨hC,hbS,X,res,nL,h3,h5,h4⟩⟩
 ·cases h1
 ·exact(hnp h2).elim
 ·rw[hcp] at h2;cases h2
 ·exact(hnp hA').elim
 ·
  obtain⟨hb,hc⟩:=what h4 rfl rfl rfl;have behind:∀(v:Value),aU P bl ops rest ((({s with L:=L'}:St)).put i.dst v) K->aU P bl ops (p::rest) (s.put i.dst v) K:=by
   intro v hr;refine⟨fun d hd'=>(by rw[hd] at hd';cases hd'),true,hwp _,.inr ⟨rfl,.inr (.inr (.inr (.inl ⟨hm,hd,L',fun B a w hrel=>?_,(fun hb=>by rw[hS] at hb;cases hb),?_⟩)))⟩⟩
   ·have hrel':kK B (({s with L:=s.L++[]}:St).put i.dst v) a w:=by simpa using hrel
    obtain⟨u,hu⟩:=kK.putBack (s:=s) (new:=[]) hb hrel';have:=h3 B _ w hu
    rwa [execOp_put p hns a i.dst u ap3] at this
   ·have e:({s.put i.dst v with L:=L'}:St)=(({s with L:=L'}:St)).put i.dst v:=qa6
    rw[e];exact hr
  rcases hc with⟨c1,c2⟩|⟨c1,v,c2,c3⟩
  ·exact ahead undef (.inl ⟨c1,rfl⟩) hb (behind _ c2)
  ·exact ahead v (.inr ⟨c1,c2⟩) hb (behind _ c3)
 ·
  have hs1:∀gg,(({s with L:=s.L++[alB gg e cs]}:St).put p.dst (alV p gg)).nt=s.nt:=fun gg=>Vr
  have hw1:∀gg,az ops i (({s with L:=s.L++[alB gg e cs]}:St).put p.dst (alV p gg)).t=az ops i s.t:=fun gg=>tu (s:={s with L:=s.L++[alB gg e cs]}) ap1
  have hv1:∀gg,oq P (({s with L:=s.L++[alB gg e cs]}:St).put p.dst (alV p gg)).t i=oq P s.t i:=fun gg=>DI (s:={s with L:=s.L++[alB gg e cs]}) ap1
  have hp2:je p=true∨isAl p=true:= .inr hA';have hpi:∀d,p.dst=some d->i.dst≠some d:=ap2;have behind:∀(v:Value),(∀d,i.dst=some d->d<s.nt)->(∀gg,aU P bl ops rest ((({s with L:=s.L++[alB gg e cs]}:St).put p.dst (alV p gg)).put i.dst v) K)->aU P bl ops (p::rest) (s.put i.dst v) K:=by
   intro v hb hr;have e:s.put i.dst v=({s with L:=s.L++[]}:St).put i.dst v:=bz
   rw[e];refine iM.laterA (K:=fun s2=>aU P bl ops rest s2 K) hA hS hp2 hM hb ap3 hpi ⟨h0,true,hg,.inr ⟨rfl,.inr (.inr (.inr (.inr (.inl ⟨hA',_,cs,h3,fun gg s2 he=>?_⟩))))⟩⟩;refine aU.kcP hA hS hK rest _ _ he ?_;have:=hr gg
   simpa using this
  obtain⟨hb,hc⟩:=what (h4 0) (hs1 0) (hw1 0) (hv1 0);rcases hc with⟨c1,_⟩|⟨c1,v,c2,_⟩
  ·refine ahead undef (.inl ⟨c1,rfl⟩) hb (behind _ hb fun gg=>?_);rcases(what (h4 gg) (hs1 gg) (hw1 gg) (hv1 gg)).2 with⟨_,d2⟩|⟨d1,_⟩
   ·exact d2
   ·rw[c1] at d1;cases d1
  ·refine ahead v (.inr ⟨c1,c2⟩) hb (behind _ hb fun gg=>?_);rcases(what (h4 gg) (hs1 gg) (hw1 gg) (hv1 gg)).2 with⟨d1,_⟩|⟨_,v',d2,d3⟩
   ·rw[c1] at d1;cases d1
   ·rw[c2] at d2;cases d2;exact d3
 ·rw[hS] at hbS;cases hbS
def Nv(bl:List Nat)(ops:Array Oper)(op oi:Oper):Bool:=
 op.apart ops oi&&(((je op&&xh bl oi&& !kz op)||(isAl oi&&(je op||isAl op)))||((isSto op||isAl op)&&Bi oi&&op.guard.isNone))
def aU.frontA{P:Program}{bl:List Nat}{ops:Array Oper}{i:Oper}{post:List Oper}{K:St->Prop}(hA:Lu bl=true)(hS:IE bl=false)(hM:LC bl=false)(hK:KCP K):∀{pre:List Oper} {s:St},
 (∀p∈pre,Nv bl ops p i=true)->aU P bl ops (pre++i::post) s K->aU P bl ops (i::(pre++post)) s K
 |[],s,_,h=>h
 |p::pre,s,hp,h=>by
  have h1:iM P bl ops p s (fun s'=>aU P bl ops (pre++i::post) s' K):=h;have h2:aU P bl ops (p::i::(pre++post)) s K:=by
   refine iM.mono ?_ h1;intro s' hr;exact aU.frontA hA hS hM hK (fun q hq=>hp q (by simp[hq])) hr
  have hpp:=hp p bz;simp only[Nv,Bool.and_eq_true,Bool.or_eq_true,Bool.not_eq_true'] at hpp;obtain⟨ha,(⟨⟨hm,hf⟩,hc⟩|⟨hi,hm⟩)|⟨⟨hs,hi⟩,hg⟩⟩:=hpp
  ·exact aU.swap (hK.kc) hm hf hc ha h2
  ·exact aU.swapA hA hS hM hK hm hi ha h2
  ·exact aU.swapQ hA hS hM hK hs (by simpa using hg) hi ha h2
def GM(bl:List Nat)(ops:Array Oper)(p i:Nat):Bool:=
 waitsF ops ops.size i p||
 match ops[p]?,ops[i]? with
 |some op,some oi=>Nv bl ops op oi
 |_,_=>false
def BI(bl:List Nat)(ops:Array Oper)(perm:List Nat):Bool:=
 decide (perm.length=ops.size)&&perm.all (fun i=>decide (i<ops.size))&&(List.range ops.size).all (fun i=>perm.contains i)&&
 iO (GM bl ops) perm&&iO (jo ops) perm&&perm.all (fun i=>jo ops i i)&&perm.all (fun i=>su ops i)&&iO (fun i j=>i !=j) perm&&Lu bl&& !IE bl&& !LC bl
def P9{P:Program}{bl:List Nat}{ops:Array Oper}{Q:Exit->Act->World->Prop}{K:St->Prop}{B:Bs}(hA:Lu bl=true)(hS:IE bl=false)(hM:LC bl=false)(hK:KCP K)(hpost:∀s' a' w',K s'->kK B s' a' w'->Q .normal a' w'):
 ∀(n:Nat) (l:List Nat) (listed:Array Bool) (s:St) (a:Act) (w:World),l.length=n->YH ops l->l.Pairwise (fun p i=>GM bl ops p i=true)->listed.size=ops.size->
  (∀j,j<ops.size->(listed.getD j true=false↔j∈l))->SX ops listed->aU P bl ops (l.map fun i=>ops.getD i default) s K->kK B s a w->
  wpAny P .any ops Q n listed a w:=by
 intro n
 induction n with
 |zero=>
  intro l listed s a w hn ho hok hsz hl hc hr h;have:l=[]:=List.eq_nil_of_length_eq_zero hn;subst this;refine⟨?_,hpost _ _ _ hr h⟩;rcases hh:Region.ready .any ops listed with _|⟨i,r⟩
  ·rfl
  ·exfalso
   obtain⟨h1,o,ho',_⟩:=mem_ready.1 (show i∈Region.ready .any ops listed by rw[hh];simp);have:=(hl i (Array.getElem?_eq_some_iff.1 ho').1).1 h1;simp at this
 |succ n ih=>
  intro l listed s a w hn ho hok hsz hl hc hr h;refine⟨fun h0=>?_,fun i hi=>?_⟩
  ·exfalso
   cases l with
   |nil=>simp at hn
   |cons i0 rest=>
    have hi0:=ho.lt i0 bz;have:i0∈Region.ready .any ops listed:=by
     refine mem_ready.2 ⟨(hl i0 hi0).2 bz,ops[i0],Array.getElem?_eq_getElem hi0,fun e he hb=>?_⟩
     rcases hx:listed.getD e.on false with _|_
     ·exfalso
      have hself:=ho.self i0 bz;have hnw:∀j,j∈rest->jo ops i0 j=true:=fun j hj=>(List.pairwise_cons.1 ho.nw).1 j hj
      have key:∀j,jo ops i0 j=true->e.on≠j:=fun j hj e'=>by
       unfold jo at hj;rw[Array.getElem?_eq_getElem hi0] at hj;have:=(Array.all_eq_true'.1 hj) e he;simp[hb,e'] at this
      rcases Nat.lt_or_ge e.on ops.size with hlt|hge
      ·have hun:listed.getD e.on true=false:=by
        have:e.on<listed.size:=qfm;simp[this] at hx ⊢;exact hx
       have:=(hl e.on hlt).1 hun;rcases List.mem_cons.1 this with h1|h1
       ·exact key i0 hself h1
       ·exact key e.on (hnw _ h1) rfl
      ·have hj:=ho.ed i0 bz;unfold su at hj;rw[Array.getElem?_eq_getElem hi0] at hj;have:=(Array.all_eq_true'.1 hj) e he;simp[hb] at this;omega
     ·rfl
    rw[h0] at this;cases this
  ·obtain⟨hun,oi,hoi,hall⟩:=mem_ready.1 hi;have hilt:=(Array.getElem?_eq_some_iff.1 hoi).1;have hil:i∈l:=(hl i hilt).1 hun;obtain⟨pre,post,rfl⟩:=List.append_of_mem hil;have hoid:ops.getD i default=oi:=by simp[hoi]
   have hpre:∀p∈pre,∃op,ops[p]? =some op∧Nv bl ops op oi=true:=by
    intro p hp;have hpo:GM bl ops p i=true:=(List.pairwise_append.1 hok).2.2 p hp i bz;unfold GM at hpo;rw[Bool.or_eq_true] at hpo;rcases hpo with hpo|hpo
    ·exfalso
     have h1:=rZ hc hpo (fun o ho' e he hb=>qfn);have hplt:=ho.lt p MK;have h2:=(hl p hplt).2 MK;rw[SY h2] at h1;cases h1
    ·rw[hoi] at hpo;cases hop:ops[p]? with
     |none=>rw[hop] at hpo;cases hpo
     |some op=>rw[hop] at hpo;exact⟨op,rfl,hpo⟩
   have hrun:aU P bl ops (oi::((pre++post).map fun i=>ops.getD i default)) s K:=by
    rw[List.map_append] at hr ⊢;rw[List.map_cons,hoid] at hr;refine aU.frontA hA hS hM hK ?_ hr;intro q hq;obtain⟨p,hp,rfl⟩:=List.mem_map.1 hq;obtain⟨op,hop,h1⟩:=hpre p hp;have:ops.getD p default=op:=by simp[hop]
    rw[this];exact h1
   have hsub:(pre++post).Sublist (pre++i::post):=List.Sublist.append (List.Sublist.refl _) (List.sublist_cons_self _ _);have hnd:=ho.nodup;have hinot:i∉pre++post:=by
    intro hm;have:=List.nodup_append.1 hnd;rcases List.mem_append.1 hm with h1|h1
    ·exact this.2.2 i h1 i bz rfl
    ·exact(List.nodup_cons.1 this.2.1).1 h1
   unfold wpOp;rw[hoi];dsimp only;have hS':=iM.sound (K':=wpAny P .any ops Q n (listed.setIfInBounds i true)) (Q:=Q) hrun h (fun s' a' w' hk hrel=>by
 refine ih (pre++post) (listed.setIfInBounds i true) s' a' w' ?_ (ho.sub hsub) (hok.sublist hsub) (by simpa using hsz) ?_ ?_ hk hrel
 ·simp at hn ⊢;omega
 ·intro j hj
  exact qfh
 ·intro j hj o hoj e he hb
  by_cases hij:i=j
  ·exact Yg
  ·rw[getD_set_ne false hij] at hj;exact getD_set_true (hc j hj o hoj e he hb))
   split
   ·rename_i hw;rw[if_pos hw] at hS';exact .inl hS'
   ·rename_i hw;rw[if_neg hw] at hS';exact hS'
def At.kcp{B:Bs}{X:Act->World->Prop}:KCP (fun s=>At B s X):=fun s s' he h a w hr=>h a w (he.rel hr)
def DT{P:Program}{B:Bs}{Q:Exit->Act->World->Prop}{s:St}{id:Nat}{l l':List Oper}(bl perm:List Nat)(hm:P.follows .mixedOrders=true)(hc:BI bl l.toArray perm=true)(hl:perm.map (fun i=>l.toArray.getD i default)=l')
 (h:aU P bl l.toArray l' s (fun s'=>At B s' (Q .normal))):At B s ((Code.region id l.toArray true).wp P Q):=fun a w hr=>by
 simp only[BI,Bool.and_eq_true,decide_eq_true_eq,Bool.not_eq_true'] at hc;obtain⟨⟨⟨⟨⟨⟨⟨⟨⟨⟨hlen,hlt⟩,hall⟩,hpo⟩,hnw⟩,hself⟩,hed⟩,hnd⟩,hA⟩,hS⟩,hM⟩:=hc;have hOrd:YH l.toArray perm:=⟨fun i hi=>of_decide_eq_true (List.all_eq_true.1 hlt i hi),gK hnw,fun i hi=>List.all_eq_true.1 hself i hi,fun i hi=>List.all_eq_true.1 hed i hi,(gK hnd).imp (fun h=>pX)⟩
 subst hl;refine wp_region_any hm ?_;refine P9 hA hS hM At.kcp (B:=B) (fun s' a' w' h1 h2=>h1 a' w' h2) l.toArray.size perm _ s a _ hlen hOrd (gK hpo) bz ?_ ?_ h hr.drew
 ·intro j hj;have:j∈perm:=by
   have:=List.all_eq_true.1 hall j (List.mem_range.2 hj)
   simpa using this
  have hj':j<l.length:=(by simpa using hj);simp[hj',this]
 ·intro j hj
  exfalso
  rcases Nat.lt_or_ge j l.length with h1|h1
  ·simp[h1] at hj
  ·simp[h1] at hj
end Go.Via
