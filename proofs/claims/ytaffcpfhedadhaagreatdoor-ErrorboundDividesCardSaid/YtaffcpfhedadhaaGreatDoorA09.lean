/-
  Part 9 (chapter 32): lemmas, walks. Each theorem states its own conditions.
-/
import GoSem.Core.World
import Derived.MapKept
import Derived.WalkKit
import Derived.WalkSpells
import Derived.WalkLawsBesides
import Derived.Deep.LoopGhost
import Derived.Deep.AppendSrc
import Derived.Laws.BytesArg
import Derived.Laws.CopyRow
import Derived.Laws.AppendOwn
import Derived.Deep.Upon
import Derived.Test.YtaffcpfhedadhaaGreatDoorA08
set_option linter.all false
set_option maxRecDepth 20000
set_option maxHeartbeats 20000000
section
variable{P Q:Prop}{T:Type}{R:T->Prop}
def UB(h:P:=by simpa using h3):=h
end
namespace Go.Via
variable[Mo]
open Go Go.RowKit
def CV(Q:Nat->Prop):List Nat->Prop
 |[]=>True
 |i::l=>Q i∧CV Q l
def CV.mem{Q:Nat->Prop}:∀{l:List Nat},CV Q l->∀i∈l,Q i
 |[],_,i,h=>by cases h
 |j::l,hh,i,h=>by
  rcases List.mem_cons.1 h with rfl|h
  ·exact hh.1
  ·exact CV.mem hh.2 i h
def Ap(P:Program)(ops:Array Oper)(K:St->Prop):Nat->Array Bool->St->Prop
 |0,listed,s=>Region.ready .any ops listed=[]∧K s
 |n+1,listed,s=>∃l:List Nat,Region.ready .any ops listed=l∧l.isEmpty=false∧CV (fun i=>∃o,ops[i]? =some o∧aW P [1000000] ops [o] s (fun s'=>Ap P ops K n (listed.setIfInBounds i true) s')) l
def QQ{P:Program}{ops:Array Oper}{Q:Exit->Act->World->Prop}{K:St->Prop}{B:Bs}(hpost:∀s' a' w',K s'->kN B s' a' w'->Q .normal a' w'):
 ∀(n:Nat) (listed:Array Bool) (s:St) (a:Act) (w:World),Ap P ops K n listed s->kN B s a w->wpAny P .any ops Q n listed a w
 |0,listed,s,a,w,h,hr=>⟨h.1,hpost _ _ _ h.2 hr⟩
 |n+1,listed,s,a,w,h,hr=>by
  obtain⟨l,h1,h2,h3⟩:=h;refine⟨fun h0=>?_,fun i hi=>?_⟩
  ·rw[h1] at h0;subst h0;cases h2
  ·rw[h1] at hi;obtain⟨o,ho,hs⟩:=h3.mem i hi;have:=iM.sound (K':=fun a' w'=>wpAny P .any ops Q n (listed.setIfInBounds i true) a' w') (Q:=Q) hs hr (fun s' a' w' hk hr'=>QQ hpost n _ s' a' w' hk hr')
   unfold wpOp;rw[ho];dsimp only
   split
   ·rename_i hw;rw[if_pos hw] at this;exact .inl this
   ·rename_i hw;rw[if_neg hw] at this;exact this
def qic{P:Program}{B:Bs}{Q:Exit->Act->World->Prop}{nt:Nat}{t:List (Nat×Value)}{L:List aH}{id:Nat}{l:List Oper}(T:List (Nat×Value))(L':List aH)(hm:P.follows .mixedOrders=true)
 (h:Ap P l.toArray (fun s'=>s'.nt=nt∧jT s'.t T∧s'.L=L') l.toArray.size (Array.replicate l.toArray.size false) ⟨nt,t,L⟩)(hk:At B ⟨nt,T,L'⟩ (Q .normal)):
 At B ⟨nt,t,L⟩ ((Code.region id l.toArray true).wp P Q):=fun a w hr=>by
 refine wp_region_any hm ?_;refine QQ (K:=fun s'=>s'.nt=nt∧jT s'.t T∧s'.L=L') (B:=B) (fun s' a' w' hK hrel=>?_) _ _ ⟨nt,t,L⟩ a _ h hr.drew;obtain⟨h1,h2,h3⟩:=hK;refine hk a' w' ?_;have:=hrel.sub (t:=T) fun d v hd=>h2.mem (d,v) (uG hd)
 rw[h1,h3] at this;exact this
def iZ{P:Program}{ops:Array Oper}{K:St->Prop}{n:Nat}{listed:Array Bool}{s:St}(l:List Nat)(h1:Region.ready .any ops listed=l)(h2:l.isEmpty=false)
 (h:CV (fun i=>∃o,ops[i]? =some o∧aW P [1000000] ops [o] s (fun s'=>Ap P ops K n (listed.setIfInBounds i true) s')) l):Ap P ops K (n+1) listed s:=⟨l,h1,h2,h⟩
end Go.Via
namespace Go.Via
variable[Mo]
open Go Go.RowKit
def pJ(P:Program)(bl:List Nat)(ops:Array Oper)(K:St->Prop):Nat->List Nat->St->Prop
 |0,Ts,s=>Ts=[]∧K s
 |n+1,Ts,s=>CV (fun i=>∃o,ops[i]? =some o∧aW P bl ops [o] s (fun s'=>pJ P bl ops K n (Ts.filter (· !=i)) s')) (Ts.filter fun i=> !Ts.any fun j=>waitsF ops ops.size i j)
def CV.mono{Q Q':Nat->Prop}(h:∀i,Q i->Q' i):∀{l:List Nat},CV Q l->CV Q' l
 |[],_=>trivial
 |_::_,hh=>⟨h _ hh.1,CV.mono h hh.2⟩
def pJ.kc{P:Program}{bl:List Nat}{ops:Array Oper}{K:St->Prop}(hK:KC K):∀(n:Nat) (Ts:List Nat),KC (pJ P bl ops K n Ts)
 |0,Ts=>fun s1 s2 he h=>⟨h.1,hK s1 s2 he h.2⟩
 |n+1,Ts=>fun s1 s2 he h=>CV.mono (fun i ⟨o,h1,h2⟩=>⟨o,h1,aW.kc (pJ.kc hK n _) [o] s1 s2 he h2⟩) h
def pJ.mono{P:Program}{bl:List Nat}{ops:Array Oper}{K K':St->Prop}(hK:∀s,K s->K' s):∀(n:Nat) (Ts:List Nat) (s:St),pJ P bl ops K n Ts s->pJ P bl ops K' n Ts s
 |0,Ts,s,h=>⟨h.1,hK s h.2⟩
 |n+1,Ts,s,h=>CV.mono (fun i ⟨o,h1,h2⟩=>⟨o,h1,h2.mono (fun s'=>pJ.mono hK n _ s')⟩) h
def aW.append{P:Program}{bl:List Nat}{ops:Array Oper}{K:St->Prop}:∀{l l2:List Oper} {s:St},aW P bl ops l s (fun s'=>aW P bl ops l2 s' K)->aW P bl ops (l++l2) s K
 |[],_,_,h=>h
 |_::l,l2,_,h=>iM.mono (fun _ h1=>aW.append (l:=l) h1) h
structure WS(ops:Array Oper)(l:List Nat):Prop where
 lt:∀i∈l,i<ops.size
 nw:l.Pairwise (fun p i=>jr ops p i=true)
 self:∀i∈l,jr ops i i=true
 ed:∀i∈l,ry ops i=true
 nodup:l.Nodup
def WS.sub{ops:Array Oper}{l l':List Nat}(h:WS ops l)(hs:l'.Sublist l):WS ops l':=
 ⟨fun i hi=>h.lt i (hs.subset hi),h.nw.sublist hs,fun i hi=>h.self i (hs.subset hi),fun i hi=>h.ed i (hs.subset hi),h.nodup.sublist hs⟩
def Ot{P:Program}{bl:List Nat}{ops:Array Oper}{Q:Exit->Act->World->Prop}{K:St->Prop}{B:Bs}(hK:KC K)(hpost:∀s' a' w',K s'->kN B s' a' w'->Q .normal a' w'):
 ∀(n:Nat) (l Ts:List Nat) (listed:Array Bool) (s:St) (a:Act) (w:World),(l++Ts).length=n->WS ops (l++Ts)->l.Pairwise (fun p i=>sZ bl ops p i=true)->(∀p∈l,∀i∈Ts,sZ bl ops p i=true)->listed.size=ops.size->
  (∀j,j<ops.size->(listed.getD j true=false↔j∈l++Ts))->QH ops listed->aW P bl ops (l.map fun i=>ops.getD i default) s (pJ P bl ops K Ts.length Ts)->kN B s a w->
  wpAny P .any ops Q n listed a w:=by
 intro n
 induction n with
 |zero=>
  intro l Ts listed s a w hn ho hok hokT hsz hl hc hr h;have h0:l++Ts=[]:=List.eq_nil_of_length_eq_zero hn;obtain⟨rfl,rfl⟩:=List.append_eq_nil_iff.1 h0;refine⟨?_,hpost _ _ _ hr.2 h⟩;rcases hh:Region.ready .any ops listed with _|⟨i,r⟩
  ·rfl
  ·exfalso
   obtain⟨h1,o,ho',_⟩:=mem_ready.1 (show i∈Region.ready .any ops listed by rw[hh];simp);have:=(hl i (Array.getElem?_eq_some_iff.1 ho').1).1 h1;simp at this
 |succ n ih=>
  intro l Ts listed s a w hn ho hok hokT hsz hl hc hr h;refine⟨fun h0=>?_,fun i hi=>?_⟩
  ·exfalso
   obtain⟨i0,rest,he⟩:∃i0 rest,l++Ts=i0::rest:=by
    cases hlt:l++Ts with
    |nil=>rw[hlt] at hn;cases hn
    |cons x y=>exact⟨x,y,rfl⟩
   rw[he] at ho hl;have hi0:=ho.lt i0 bz;have:i0∈Region.ready .any ops listed:=by
    refine mem_ready.2 ⟨(hl i0 hi0).2 bz,ops[i0],Array.getElem?_eq_getElem hi0,fun e hee hb=>?_⟩
    rcases hx:listed.getD e.on false with _|_
    ·exfalso
     have hself:=ho.self i0 bz;have hnw:∀j,j∈rest->jr ops i0 j=true:=fun j hj=>(List.pairwise_cons.1 ho.nw).1 j hj
     have key:∀j,jr ops i0 j=true->e.on≠j:=fun j hj e'=>by
      unfold jr at hj;rw[Array.getElem?_eq_getElem hi0] at hj;have:=(Array.all_eq_true'.1 hj) e hee;simp[hb,e'] at this
     rcases Nat.lt_or_ge e.on ops.size with hlt|hge
     ·have hun:listed.getD e.on true=false:=by
       have:e.on<listed.size:=qcV;simp[this] at hx ⊢;exact hx
      have:=(hl e.on hlt).1 hun;rcases List.mem_cons.1 this with h1|h1
      ·exact key i0 hself h1
      ·exact key e.on (hnw _ h1) rfl
     ·have hj:=ho.ed i0 bz;unfold ry at hj;rw[Array.getElem?_eq_getElem hi0] at hj;have:=(Array.all_eq_true'.1 hj) e hee;simp[hb] at this;omega
    ·rfl
   rw[h0] at this;cases this
  ·obtain⟨hun,oi,hoi,hall⟩:=mem_ready.1 hi;have hilt:=(Array.getElem?_eq_some_iff.1 hoi).1;have hil:i∈l++Ts:=(hl i hilt).1 hun;have hoid:ops.getD i default=oi:=by simp[hoi]
   have hnowait:∀p,p∈l++Ts->waitsF ops ops.size i p=false:=fun p hp=>by
    rcases hw:waitsF ops ops.size i p with _|_
    ·rfl
    ·exfalso
     have h1:=ru hc hw (fun o ho' e he hb=>qcW);have h2:=(hl p (ho.lt p hp)).2 hp;rw[QI h2] at h1;cases h1
   have pass:∀p,p∈l++Ts->sZ bl ops p i=true->∃op,ops[p]? =some op∧je op=true∧vW bl oi=true∧kJ op=false∧op.apart ops oi=true:=by
    intro p hp hpo;unfold sZ at hpo;rw[hnowait p hp,Bool.false_or,hoi] at hpo;cases hop:ops[p]? with
    |none=>rw[hop] at hpo;cases hpo
    |some op=>
     rw[hop] at hpo;simp only[Bool.and_eq_true,Bool.not_eq_true'] at hpo;exact⟨op,rfl,hpo.1.1.1,hpo.1.1.2,hpo.1.2,hpo.2⟩
   have front:∀(pre post:List Nat) (K':St->Prop),KC K'->(∀p∈pre,p∈l++Ts∧sZ bl ops p i=true)->aW P bl ops ((pre++i::post).map fun i=>ops.getD i default) s K'->
    iM P bl ops oi s (fun s'=>aW P bl ops ((pre++post).map fun i=>ops.getD i default) s' K'):=by
    intro pre post K' hK' hpre hr1;rw[List.map_append,List.map_cons,hoid] at hr1;rw[List.map_append];cases hpz:pre with
    |nil=>rw[hpz] at hr1;exact hr1
    |cons p0 pre0=>
     obtain⟨hp1,hp2⟩:=hpre p0 (by rw[hpz];simp);obtain⟨op0,_,_,hmi,_,_⟩:=pass p0 hp1 hp2;rw[<-hpz];refine aW.front hK' hmi ?_ hr1;intro q hq;obtain⟨p,hp,rfl⟩:=List.mem_map.1 hq;obtain⟨hp1,hp2⟩:=hpre p hp;obtain⟨op,hop,h1,h2,h3,h4⟩:=pass p hp1 hp2;have:ops.getD p default=op:=by simp[hop]
     rw[this];exact⟨h1,h3,h4⟩
   obtain⟨l',Ts',hsub,hlen,hmem,hsl,hst,hstep⟩:∃l' Ts':List Nat,(l'++Ts').Sublist (l++Ts)∧(l'++Ts').length=n∧(∀j,j∈l'++Ts'↔j∈l++Ts∧j≠i)∧l'.Sublist l∧(∀j∈Ts',j∈Ts)∧
    iM P bl ops oi s (fun s'=>aW P bl ops (l'.map fun i=>ops.getD i default) s' (pJ P bl ops K Ts'.length Ts')):=by
    have hnd:=ho.nodup
    by_cases hi1:i∈l
    ·obtain⟨pre,post,rfl⟩:=List.append_of_mem hi1;refine⟨pre++post,Ts,?_,?_,fun j=>?_,List.Sublist.append (List.Sublist.refl _) (List.sublist_cons_self _ _),fun j hj=>hj,?_⟩
     ·exact List.Sublist.append (List.Sublist.append (List.Sublist.refl _) (List.sublist_cons_self _ _)) (List.Sublist.refl _)
     ·simp at hn ⊢;omega
     ·have h1:i∉pre++post++Ts:=by
       intro hm;rw[show pre++i::post++Ts=pre++i::(post++Ts) by simp] at hnd;have h2:=List.nodup_append.1 hnd;rw[List.append_assoc] at hm;rcases List.mem_append.1 hm with h3|h3
       ·exact h2.2.2 i h3 i bz rfl
       ·exact(List.nodup_cons.1 h2.2.1).1 h3
      constructor
      ·intro hj;refine⟨?_,fun e=>h1 (e▸hj)⟩
       simp at hj ⊢;rcases hj with h|h|h<;>simp[h]
      ·rintro⟨hj,hne⟩;simp at hj ⊢;rcases hj with h|h|h|h
       ·simp[h]
       ·exact absurd h hne
       ·simp[h]
       ·simp[h]
     ·exact front pre post _ (pJ.kc hK _ _) (fun p hp=>⟨Ko,(List.pairwise_append.1 hok).2.2 p hp i bz⟩) hr
    ·have hi2:i∈Ts:=by
      rcases List.mem_append.1 hil with h1|h1
      ·exact absurd h1 hi1
      ·exact h1
     have hndT:Ts.Nodup:=(List.nodup_append.1 hnd).2.1;obtain⟨pre,post,rfl⟩:=List.append_of_mem hi2;have hnot:i∉pre∧i∉post:=by
      have h2:=List.nodup_append.1 hndT;exact⟨fun h3=>h2.2.2 i h3 i bz rfl,(List.nodup_cons.1 h2.2.1).1⟩
     have hfil:(pre++i::post).filter (· !=i)=pre++post:=by
      rw[List.filter_append,List.filter_cons];simp only[bne_self_eq_false,Bool.false_eq_true,if_false];rw[List.filter_eq_self.2 (fun j hj=>by have:j≠i:=fun e=>hnot.1 (e▸hj);simpa using this),List.filter_eq_self.2 (fun j hj=>by have:j≠i:=fun e=>hnot.2 (e▸hj);simpa using this)]
     refine⟨l,pre++post,?_,?_,fun j=>?_,List.Sublist.refl _,fun j hj=>?_,?_⟩
     ·exact List.Sublist.append (List.Sublist.refl _) (List.Sublist.append (List.Sublist.refl _) (List.sublist_cons_self _ _))
     ·simp at hn ⊢;omega
     ·constructor
      ·intro hj;refine⟨?_,fun e=>?_⟩
       ·simp at hj ⊢;rcases hj with h|h|h<;>simp[h]
       ·subst e;simp at hj;rcases hj with h|h|h
        ·exact hi1 h
        ·exact hnot.1 h
        ·exact hnot.2 h
      ·rintro⟨hj,hne⟩;simp at hj ⊢;rcases hj with h|h|h|h
       ·simp[h]
       ·simp[h]
       ·exact absurd h hne
       ·simp[h]
     ·simp at hj ⊢;rcases hj with h|h<;>simp[h]
     ·have hr2:aW P bl ops ((l++[i]).map fun i=>ops.getD i default) s (pJ P bl ops K (pre++post).length (pre++post)):=by
       rw[List.map_append];refine aW.append (hr.mono fun s' hs'=>?_);have hlen:(pre++i::post).length=(pre++post).length+1:=Iy
       rw[hlen] at hs';have hs2:CV _ _:=hs';have hmi:i∈(pre++i::post).filter (fun i'=> !(pre++i::post).any fun j=>waitsF ops ops.size i' j):=by
        refine List.mem_filter.2 ⟨bz,?_⟩;rw[Bool.not_eq_true',Bool.eq_false_iff];intro h1;obtain⟨j,hj,hw⟩:=List.any_eq_true.1 h1;rw[hnowait j (by simp at hj ⊢;rcases hj with h|h|h<;>simp[h])] at hw;cases hw
       obtain⟨o,ho1,ho2⟩:=hs2.mem i hmi;rw[hoi] at ho1;cases ho1;rw[hfil] at ho2;rw[List.map_singleton,hoid];exact ho2
      have:=front l [] _ (pJ.kc hK _ _) (fun p hp=>⟨Ko,hokT p hp i bz⟩) hr2
      simpa using this
   unfold wpOp;rw[hoi];dsimp only;have hS:=iM.sound (K':=wpAny P .any ops Q n (listed.setIfInBounds i true)) (Q:=Q) hstep h (fun s' a' w' hk hrel=>by
 refine ih l' Ts' (listed.setIfInBounds i true) s' a' w' hlen (ho.sub hsub) (hok.sublist hsl) (fun p hp j hj=>hokT p (hsl.subset hp) j (hst j hj)) (by simpa using hsz) ?_ ?_ hk hrel
 ·intro j hj;rw[hmem j]
  by_cases hij:i=j
  ·subst hij;have:i<listed.size:=qcX
   simp[this]
  ·rw[getD_set_ne true hij,hl j hj];simp[Ne.symm hij]
 ·intro j hj o hoj e he hb
  by_cases hij:i=j
  ·subst hij;rw[hoi] at hoj;cases hoj;exact getD_set_true (hall e he hb)
  ·rw[getD_set_ne false hij] at hj;exact getD_set_true (hc j hj o hoj e he hb))
   split
   ·rename_i hw;rw[if_pos hw] at hS;exact .inl hS
   ·rename_i hw;rw[if_neg hw] at hS;exact hS
def KP(bl:List Nat)(ops:Array Oper)(perm T:List Nat):Bool:=
 decide ((perm++T).length=ops.size)&&(perm++T).all (fun i=>decide (i<ops.size))&&(List.range ops.size).all (fun i=>(perm++T).contains i)&&
 iO (sZ bl ops) perm&&perm.all (fun p=>T.all fun i=>sZ bl ops p i)&&iO (jr ops) (perm++T)&&(perm++T).all (fun i=>jr ops i i)&&(perm++T).all (fun i=>ry ops i)&&iO (fun i j=>i !=j) (perm++T)
def qbl{P:Program}{bl:List Nat}{id:Nat}{ops:Array Oper}{Q:Exit->Act->World->Prop}{s:St}{B:Bs}{w:World}{a:Act}(perm T:List Nat){l:List Oper}{K:St->Prop}
 (hm:P.follows .mixedOrders=true)(hc:KP bl ops perm T=true)(hl:perm.map (fun i=>ops.getD i default)=l)(hr:aW P bl ops l s (pJ P bl ops K T.length T))
 (hpost:∀s' a' w',K s'->kN B s' a' w'->Q .normal a' w')(h:kN B s a w):(Code.region id ops true).wp P Q a w:=by
 simp only[KP,Bool.and_eq_true,decide_eq_true_eq] at hc;obtain⟨⟨⟨⟨⟨⟨⟨⟨hlen,hlt⟩,hall⟩,hpo⟩,hpt⟩,hnw⟩,hself⟩,hed⟩,hnd⟩:=hc;have hOrd:WS ops (perm++T):=⟨fun i hi=>of_decide_eq_true (List.all_eq_true.1 hlt i hi),gV hnw,fun i hi=>List.all_eq_true.1 hself i hi,fun i hi=>List.all_eq_true.1 hed i hi,(gV hnd).imp (fun h=>pI)⟩
 subst hl;have hK:KC (fun s'=>∃s0,D6 s0 s'∧K s0):=fun s1 s2 he ⟨s0,h0,h1⟩=>⟨s0,h0.trans he,h1⟩
 refine wp_region_any hm ?_;refine Ot hK (fun s' a' w' ⟨s0,he,hk⟩ hrel=>hpost s0 a' w' hk (he.symm.rel hrel)) ops.size perm T _ s a _ hlen hOrd (gV hpo) (fun p hp i hi=>List.all_eq_true.1 (List.all_eq_true.1 hpt p hp) i hi) (by simp) ?_ ?_
  (hr.mono (fun s' hs'=>pJ.mono (fun s1 h1=>⟨s1,D6.refl _,h1⟩) _ _ s' hs')) h.drew
 ·intro j hj;have:j∈perm++T:=by
   have:=List.all_eq_true.1 hall j (List.mem_range.2 hj);exact List.contains_iff_mem.1 this
  simp only[this,iff_true];simp[hj]
 ·intro j hj
  exfalso
  rcases Nat.lt_or_ge j ops.size with h1|h1
  ·simp[h1] at hj
  ·simp[h1] at hj
def qU{P:Program}{B:Bs}{Q:Exit->Act->World->Prop}{s:St}{id:Nat}{l l':List Oper}(bl perm T:List Nat)(hm:P.follows .mixedOrders=true)(hc:KP bl l.toArray perm T=true)(hl:perm.map (fun i=>l.toArray.getD i default)=l')
 (h:aW P bl l.toArray l' s (pJ P bl l.toArray (fun s'=>At B s' (Q .normal)) T.length T)):At B s ((Code.region id l.toArray true).wp P Q):=fun a w hr=>
 qbl (K:=fun s'=>At B s' (Q .normal)) perm T hm hc hl h (fun s' a' w' h1 h2=>h1 a' w' h2) hr
def bW{P:Program}{bl:List Nat}{ops:Array Oper}{K:St->Prop}{n:Nat}{Ts:List Nat}{s:St}(l:List Nat)(hl:(Ts.filter fun i=> !Ts.any fun j=>waitsF ops ops.size i j)=l)
 (h:CV (fun i=>∃o,ops[i]? =some o∧aW P bl ops [o] s (fun s'=>pJ P bl ops K n (Ts.filter (· !=i)) s')) l):pJ P bl ops K (n+1) Ts s:=by
 subst hl;exact h
end Go.Via
namespace Go.Via
def Hf{P:Program}{bl:List Nat}{ops:Array Oper}{K:St->Prop}{Ts:List Nat}{s:St}(h:Ts=[])(hk:K s):pJ P bl ops K 0 Ts s:=⟨h,hk⟩
end Go.Via
namespace Go.Via
variable[Mo]
open Go Go.RowKit
def Hg(P:Program)(f:Nat)(L:List aH)(args:List Value)(X:Type)(res:X->Value)(new:X->List aH):Prop:=
 iP P f=true∧∀w:World,aX w L w->Calls P f args.toArray w fun e w'=>∃x,e= .returned (res x)∧aX w (new x) w'∧∀b∈new x,∀g,b.base=some g->w.heap.size<=g∨∃b0∈L,b0.base=some g
def QR{B:Bs}{w:World}{L:List aH}(h:aX B L w)(k:Nat){b:aH}(hk:L[k]? =some b)(ho:b.own=true):∀g,b.base=some g->B.own g:=fun g hg=>((h.blk k b hk).1 g hg).2 ho
def aH.un(b:aH):aH:={b with own:=false}
theorem aX.un{B:Bs}{w:World}{L:List aH}(h:aX B L w):aX B (L.map aH.un) w:=h.mono fun k b' hk=>by
 rw[List.getElem?_map,Option.map_eq_some_iff] at hk;obtain⟨b,h1,rfl⟩:=hk;exact⟨b,h1,⟨rfl,rfl,rfl,⟨b.cs.length,by simp[aH.un]⟩,fun h=>OZ⟩⟩
def Hg.mono{P:Program}{f:Nat}{L:List aH}{args:List Value}{X Y:Type}{res:X->Value}{new:X->List aH}{res':Y->Value}{new':Y->List aH}(h:Hg P f L args X res new)(m:∀x,∃y,res x=res' y∧new x=new' y):
 Hg P f L args Y res' new':=by
 refine⟨h.1,fun w hL=>(h.2 w hL).mono ?_⟩
 rintro e w' ⟨x,rfl,hx,hf⟩;obtain⟨y,h1,h2⟩:=m x;exact⟨y,by rw[h1],by rw[<-h2];exact hx,by rw[<-h2];exact hf⟩
def aX.joinA{B:Bs}{w w':World}{L L0 new:List aH}(h:aX B L w)(h':aX w new w')(hc:∀b0∈L0,∀g,b0.base=some g->∃(k:Nat) (b:aH),L[k]? =some b∧b.base=some g∧b.own=false)
 (hf:∀b∈new,∀g,b.base=some g->w.heap.size<=g∨∃b0∈L0,b0.base=some g)(hng:∀b∈new,b.base=none->b.e<dA):aX B (L++new) w':=by
 have hs:=h.same h'.below;refine⟨hs.bel,fun k b hk=>?_,fun i j g bi bj hij hi hj ho hg hgj=>?_,hs.grp.app (h'.grp.base h.bel.le) (fun b hb hn T hT he p hp c hc' ho hg=>?_) (fun b hb hn T hT he=>absurd (he▸hng b hb hn) (Kq T))⟩
 rotate_left 2
 ·have h1:=(h.grp b hb hn T hT he p hp).1.lt;obtain⟨j,hj⟩:=List.mem_iff_getElem?.1 hc';have h2:=EQ (((h'.blk j c hj).1 _ hg).2 ho);omega
 ·rw[List.getElem?_append] at hk
  split at hk
  ·exact hs.blk k b hk
  ·obtain⟨a1,a2⟩:=h'.blk _ b hk;exact⟨fun g hg=>⟨(a1 g hg).1,fun ho=>h.bel.le _ ((a1 g hg).2 ho)⟩,a2⟩
 ·rw[List.getElem?_append] at hi hj
  split at hi<;>split at hj
  ·exact hs.apart i j g bi bj hij hi hj ho hg hgj
  ·have h1:=h.lt hi hg;rcases hf bj (List.mem_of_getElem? hj) g hgj with h2|⟨b0,h2,h3⟩
   ·omega
   ·obtain⟨k,b,h4,h5,h6⟩:=hc b0 h2 g h3
    by_cases e:i=k
    ·subst e;rw[hi] at h4;cases h4;rw[ho] at h6;cases h6
    ·exact h.apart i k g bi b e hi h4 ho hg h5
  ·have h1:=h.lt hj hgj;have h2:=EQ (((h'.blk _ bi hi).1 g hg).2 ho);omega
  ·exact h'.apart _ _ g bi bj ae hi hj ho hg hgj
def WT(L:List aH)(k:Nat):Bool:=match L[k]? with
 |some b=> !b.own
 |none=>false
def KQ{L:List aH}:∀{ks:List Nat} {L0:List aH},jf L (ks.map some) L0->ks.all (WT L)=true->∀b0∈L0,∀g,b0.base=some g->∃(k:Nat) (b:aH),L[k]? =some b∧b.base=some g∧b.own=false
 |[],[],_,_,b0,h,_,_=>by cases h
 |[],_::_,hp,_,_,_,_,_=>hp.elim
 |_::_,[],hp,_,_,_,_,_=>hp.elim
 |k::ks,c::L0,hp,ho,b0,h,g,hg=>by
  rw[List.all_cons,Bool.and_eq_true] at ho;rcases List.mem_cons.1 h with rfl|h
  ·obtain⟨b,h1,h2⟩:=hp.1;have h3:=ho.1;unfold WT at h3;rw[h1] at h3;exact⟨k,b,h1,by rw[<-h2.1];exact hg,UB⟩
  ·exact KQ hp.2 ho.2 b0 h g hg
section
variable{P:Program}{bl:List Nat}{ops:Array Oper}{K:St->Prop}{rest:List Oper}{nt:Nat}{t:List (Nat×Value)}{L:List aH}{d:Nat}{ty:TypeId}{pos:String}{af:Array Edge}{g:Option (Nat×Bool)}{x y:Operand}
def KR{f:Nat}{args:List Operand}{ts:Array TypeId}(vs:List Value){L0:List aH}{X:Type}{res:X->Value}{new:X->List aH}(ks:List Nat)(hd:Nat.blt d nt=true)(hg:aB ops ⟨some d,.call {callee:= .value (.func f),args:=args.toArray,argTypes:=ts},ty,pos,af,g⟩ t=some true)
 (hv:args.map (ev t)=vs.map some)(hc:Hg P f L0 vs X res new)(hp:jf L (ks.map some) L0)(ho:(L0.all fun b=> !b.own)=true)(hn:ks.all (WT L)=true)
 (h:∀x,aW P bl ops rest ⟨nt,(d,res x)::t,L++new x⟩ K)(hA:JG bl=false:=by rfl)
 (hng:∀x,∀b∈new x,b.base=none->b.e<dA:=by intro x b hb _;(try simp only[List.mem_cons,List.not_mem_nil,or_false] at hb);first|(subst hb;exact Nat.le_of_ble_eq_true rfl)|(rcases hb with rfl|rfl<;>exact Nat.le_of_ble_eq_true rfl)|(rw[List.mem_singleton.1 hb];exact Nat.le_of_ble_eq_true rfl)):
 aW P bl ops (⟨some d,.call {callee:= .value (.func f),args:=args.toArray,argTypes:=ts},ty,pos,af,g⟩::rest) ⟨nt,t,L⟩ K:=
 EZ hd hg rfl (X:=X) (res:=res) (new:=new) (qkR (s:=⟨nt,t,L⟩) rfl hv hc.1 fun B w hL=>(hc.2 w (hL.asArgs ks hp (fun b hb=>Ul))).mono (by
 rintro e w' ⟨x,rfl,hx,hf⟩;exact⟨x,rfl,hL.joinA hx (KQ hp hn) hf (hng x)⟩)) (fun h1=>by rw[hA] at h1;cases h1) fun x=>h x
end
end Go.Via
