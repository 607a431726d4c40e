/-
  Part 3 (chapter 32): lemmas, walks. Each theorem states its own conditions.
-/
import Derived.Laws.Small
import Derived.WideKeyEntry
import Derived.Test.YtaffcpfhedadhaaGreatDoorA02
set_option linter.all false
set_option maxRecDepth 20000
set_option maxHeartbeats 20000000
namespace Go.Via
variable[Mo]
open Go Go.RowKit
def oM(P:Program)(bl:List Nat)(ops:Array Oper)(K:St->Prop):Nat->List Nat->St->Prop
 |0,Ts,s=>Ts=[]∧K s
 |n+1,Ts,s=>BB (fun i=>∃o,ops[i]? =some o∧aX P bl ops [o] s (fun s'=>oM P bl ops K n (Ts.filter (· !=i)) s')) (Ts.filter fun i=> !Ts.any fun j=>waitsF ops ops.size i j)
def BB.mono{Q Q':Nat->Prop}(h:∀i,Q i->Q' i):∀{l:List Nat},BB Q l->BB Q' l
 |[],_=>trivial
 |_::_,hh=>⟨h _ hh.1,BB.mono h hh.2⟩
def oM.kc{P:Program}{bl:List Nat}{ops:Array Oper}{K:St->Prop}(hK:KC K):∀(n:Nat) (Ts:List Nat),KC (oM P bl ops K n Ts)
 |0,Ts=>fun s1 s2 he h=>⟨h.1,hK s1 s2 he h.2⟩
 |n+1,Ts=>fun s1 s2 he h=>BB.mono (fun i ⟨o,h1,h2⟩=>⟨o,h1,aX.kc (oM.kc hK n _) [o] s1 s2 he h2⟩) h
def oM.mono{P:Program}{bl:List Nat}{ops:Array Oper}{K K':St->Prop}(hK:∀s,K s->K' s):∀(n:Nat) (Ts:List Nat) (s:St),oM P bl ops K n Ts s->oM P bl ops K' n Ts s
 |0,Ts,s,h=>⟨h.1,hK s h.2⟩
 |n+1,Ts,s,h=>BB.mono (fun i ⟨o,h1,h2⟩=>⟨o,h1,h2.mono (fun s'=>oM.mono hK n _ s')⟩) h
def aX.append{P:Program}{bl:List Nat}{ops:Array Oper}{K:St->Prop}:∀{l l2:List Oper} {s:St},aX P bl ops l s (fun s'=>aX P bl ops l2 s' K)->aX P bl ops (l++l2) s K
 |[],_,_,h=>h
 |_::l,l2,_,h=>iD.mono (fun _ h1=>aX.append (l:=l) h1) h
structure TK(ops:Array Oper)(l:List Nat):Prop where
 lt:∀i∈l,i<ops.size
 nw:l.Pairwise (fun p i=>jd ops p i=true)
 self:∀i∈l,jd ops i i=true
 ed:∀i∈l,qH ops i=true
 nodup:l.Nodup
def TK.sub{ops:Array Oper}{l l':List Nat}(h:TK ops l)(hs:l'.Sublist l):TK ops l':=
 ⟨fun i hi=>h.lt i (hs.subset hi),h.nw.sublist hs,fun i hi=>h.self i (hs.subset hi),fun i hi=>h.ed i (hs.subset hi),h.nodup.sublist hs⟩
def KX{P:Program}{bl:List Nat}{ops:Array Oper}{Q:Exit->Act->World->Prop}{K:St->Prop}{B:Bs}(hK:KC K)(hpost:∀s' a' w',K s'->kD B s' a' w'->Q .normal a' w'):
 ∀(n:Nat) (l Ts:List Nat) (listed:Array Bool) (s:St) (a:Act) (w:World),(l++Ts).length=n->TK ops (l++Ts)->l.Pairwise (fun p i=>rH bl ops p i=true)->(∀p∈l,∀i∈Ts,rH bl ops p i=true)->listed.size=ops.size->
  (∀j,j<ops.size->(listed.getD j true=false↔j∈l++Ts))->N7 ops listed->aX P bl ops (l.map fun i=>ops.getD i default) s (oM P bl ops K Ts.length Ts)->kD B s a w->
  wpAny P .any ops Q n listed a w:=by
 intro n
 induction n with
 |zero=>
  intro l Ts listed s a w hn ho hok hokT hsz hl hc hr h;have h0:l++Ts=[]:=List.eq_nil_of_length_eq_zero hn;obtain⟨rfl,rfl⟩:=List.append_eq_nil_iff.1 h0;refine⟨?_,hpost _ _ _ hr.2 h⟩;rcases hh:Region.ready .any ops listed with _|⟨i,r⟩
  ·rfl
  ·exfalso
   obtain⟨h1,o,ho',_⟩:=mem_ready.1 (show i∈Region.ready .any ops listed by rw[hh];simp);have:=(hl i (Array.getElem?_eq_some_iff.1 ho').1).1 h1;simp at this
 |succ n ih=>
  intro l Ts listed s a w hn ho hok hokT hsz hl hc hr h;refine⟨fun h0=>?_,fun i hi=>?_⟩
  ·exfalso
   obtain⟨i0,rest,he⟩:∃i0 rest,l++Ts=i0::rest:=by
    cases hlt:l++Ts with
    |nil=>rw[hlt] at hn;cases hn
    |cons x y=>exact⟨x,y,rfl⟩
   rw[he] at ho hl;have hi0:=ho.lt i0 (by simp);have:i0∈Region.ready .any ops listed:=by
    refine mem_ready.2 ⟨(hl i0 hi0).2 (by simp),ops[i0],Array.getElem?_eq_getElem hi0,fun e hee hb=>?_⟩
    rcases hx:listed.getD e.on false with _|_
    ·exfalso
     have hself:=ho.self i0 (by simp);have hnw:∀j,j∈rest->jd ops i0 j=true:=fun j hj=>(List.pairwise_cons.1 ho.nw).1 j hj
     have key:∀j,jd ops i0 j=true->e.on≠j:=fun j hj e'=>by
      unfold jd at hj;rw[Array.getElem?_eq_getElem hi0] at hj;have:=(Array.all_eq_true'.1 hj) e hee;simp[hb,e'] at this
     rcases Nat.lt_or_ge e.on ops.size with hlt|hge
     ·have hun:listed.getD e.on true=false:=by
       have:e.on<listed.size:=(by rw[hsz];exact hlt);simp[this] at hx ⊢;exact hx
      have:=(hl e.on hlt).1 hun;rcases List.mem_cons.1 this with h1|h1
      ·exact key i0 hself h1
      ·exact key e.on (hnw _ h1) rfl
     ·have hj:=ho.ed i0 (by simp);unfold qH at hj;rw[Array.getElem?_eq_getElem hi0] at hj;have:=(Array.all_eq_true'.1 hj) e hee;simp[hb] at this;omega
    ·rfl
   rw[h0] at this;cases this
  ·obtain⟨hun,oi,hoi,hall⟩:=mem_ready.1 hi;have hilt:=(Array.getElem?_eq_some_iff.1 hoi).1;have hil:i∈l++Ts:=(hl i hilt).1 hun;have hoid:ops.getD i default=oi:=by simp[hoi]
   have hnowait:∀p,p∈l++Ts->waitsF ops ops.size i p=false:=fun p hp=>by
    rcases hw:waitsF ops ops.size i p with _|_
    ·rfl
    ·exfalso
     have h1:=qG hc hw (fun o ho' e he hb=>by rw[hoi] at ho';cases ho';exact hall e he hb);have h2:=(hl p (ho.lt p hp)).2 hp;rw[N8 h2] at h1;cases h1
   have pass:∀p,p∈l++Ts->rH bl ops p i=true->∃op,ops[p]? =some op∧iq op=true∧uF bl oi=true∧jy op=false∧op.apart ops oi=true:=by
    intro p hp hpo;unfold rH at hpo;rw[hnowait p hp,Bool.false_or,hoi] at hpo;cases hop:ops[p]? with
    |none=>rw[hop] at hpo;cases hpo
    |some op=>
     rw[hop] at hpo;simp only[Bool.and_eq_true,Bool.not_eq_true'] at hpo;exact⟨op,rfl,hpo.1.1.1,hpo.1.1.2,hpo.1.2,hpo.2⟩
   have front:∀(pre post:List Nat) (K':St->Prop),KC K'->(∀p∈pre,p∈l++Ts∧rH bl ops p i=true)->aX P bl ops ((pre++i::post).map fun i=>ops.getD i default) s K'->
    iD P bl ops oi s (fun s'=>aX P bl ops ((pre++post).map fun i=>ops.getD i default) s' K'):=by
    intro pre post K' hK' hpre hr1;rw[List.map_append,List.map_cons,hoid] at hr1;rw[List.map_append];cases hpz:pre with
    |nil=>rw[hpz] at hr1;exact hr1
    |cons p0 pre0=>
     obtain⟨hp1,hp2⟩:=hpre p0 (by rw[hpz];simp);obtain⟨op0,_,_,hmi,_,_⟩:=pass p0 hp1 hp2;rw[<-hpz];refine aX.front hK' hmi ?_ hr1;intro q hq;obtain⟨p,hp,rfl⟩:=List.mem_map.1 hq;obtain⟨hp1,hp2⟩:=hpre p hp;obtain⟨op,hop,h1,h2,h3,h4⟩:=pass p hp1 hp2;have:ops.getD p default=op:=by simp[hop]
     rw[this];exact⟨h1,h3,h4⟩
   obtain⟨l',Ts',hsub,hlen,hmem,hsl,hst,hstep⟩:∃l' Ts':List Nat,(l'++Ts').Sublist (l++Ts)∧(l'++Ts').length=n∧(∀j,j∈l'++Ts'↔j∈l++Ts∧j≠i)∧l'.Sublist l∧(∀j∈Ts',j∈Ts)∧
    iD P bl ops oi s (fun s'=>aX P bl ops (l'.map fun i=>ops.getD i default) s' (oM P bl ops K Ts'.length Ts')):=by
    have hnd:=ho.nodup
    by_cases hi1:i∈l
    ·obtain⟨pre,post,rfl⟩:=List.append_of_mem hi1;refine⟨pre++post,Ts,?_,?_,fun j=>?_,List.Sublist.append (List.Sublist.refl _) (List.sublist_cons_self _ _),fun j hj=>hj,?_⟩
     ·exact List.Sublist.append (List.Sublist.append (List.Sublist.refl _) (List.sublist_cons_self _ _)) (List.Sublist.refl _)
     ·simp at hn ⊢;omega
     ·have h1:i∉pre++post++Ts:=by
       intro hm;rw[show pre++i::post++Ts=pre++i::(post++Ts) by simp] at hnd;have h2:=List.nodup_append.1 hnd;rw[List.append_assoc] at hm;rcases List.mem_append.1 hm with h3|h3
       ·exact h2.2.2 i h3 i (by simp) rfl
       ·exact(List.nodup_cons.1 h2.2.1).1 h3
      constructor
      ·intro hj;refine⟨?_,fun e=>h1 (e▸hj)⟩
       simp at hj ⊢;rcases hj with h|h|h<;>simp[h]
      ·rintro⟨hj,hne⟩;simp at hj ⊢;rcases hj with h|h|h|h
       ·simp[h]
       ·exact absurd h hne
       ·simp[h]
       ·simp[h]
     ·exact front pre post _ (oM.kc hK _ _) (fun p hp=>⟨by simp[hp],(List.pairwise_append.1 hok).2.2 p hp i (by simp)⟩) hr
    ·have hi2:i∈Ts:=by
      rcases List.mem_append.1 hil with h1|h1
      ·exact absurd h1 hi1
      ·exact h1
     have hndT:Ts.Nodup:=(List.nodup_append.1 hnd).2.1;obtain⟨pre,post,rfl⟩:=List.append_of_mem hi2;have hnot:i∉pre∧i∉post:=by
      have h2:=List.nodup_append.1 hndT;exact⟨fun h3=>h2.2.2 i h3 i (by simp) rfl,(List.nodup_cons.1 h2.2.1).1⟩
     have hfil:(pre++i::post).filter (· !=i)=pre++post:=by
      rw[List.filter_append,List.filter_cons];simp only[bne_self_eq_false,Bool.false_eq_true,if_false];rw[List.filter_eq_self.2 (fun j hj=>by have:j≠i:=fun e=>hnot.1 (e▸hj);simpa using this),List.filter_eq_self.2 (fun j hj=>by have:j≠i:=fun e=>hnot.2 (e▸hj);simpa using this)]
     refine⟨l,pre++post,?_,?_,fun j=>?_,List.Sublist.refl _,fun j hj=>?_,?_⟩
     ·exact List.Sublist.append (List.Sublist.refl _) (List.Sublist.append (List.Sublist.refl _) (List.sublist_cons_self _ _))
     ·simp at hn ⊢;omega
     ·constructor
      ·intro hj;refine⟨?_,fun e=>?_⟩
       ·simp at hj ⊢;rcases hj with h|h|h<;>simp[h]
       ·subst e;simp at hj;rcases hj with h|h|h
        ·exact hi1 h
        ·exact hnot.1 h
        ·exact hnot.2 h
      ·rintro⟨hj,hne⟩;simp at hj ⊢;rcases hj with h|h|h|h
       ·simp[h]
       ·simp[h]
       ·exact absurd h hne
       ·simp[h]
     ·simp at hj ⊢;rcases hj with h|h<;>simp[h]
     ·have hr2:aX P bl ops ((l++[i]).map fun i=>ops.getD i default) s (oM P bl ops K (pre++post).length (pre++post)):=by
       rw[List.map_append];refine aX.append (hr.mono fun s' hs'=>?_);have hlen:(pre++i::post).length=(pre++post).length+1:=by simp;omega
       rw[hlen] at hs';have hs2:BB _ _:=hs';have hmi:i∈(pre++i::post).filter (fun i'=> !(pre++i::post).any fun j=>waitsF ops ops.size i' j):=by
        refine List.mem_filter.2 ⟨by simp,?_⟩;rw[Bool.not_eq_true',Bool.eq_false_iff];intro h1;obtain⟨j,hj,hw⟩:=List.any_eq_true.1 h1;rw[hnowait j (by simp at hj ⊢;rcases hj with h|h|h<;>simp[h])] at hw;cases hw
       obtain⟨o,ho1,ho2⟩:=hs2.mem i hmi;rw[hoi] at ho1;cases ho1;rw[hfil] at ho2;rw[List.map_singleton,hoid];exact ho2
      have:=front l [] _ (oM.kc hK _ _) (fun p hp=>⟨by simp[hp],hokT p hp i (by simp)⟩) hr2
      simpa using this
   unfold wpOp;rw[hoi];dsimp only;have hS:=iD.sound (K':=wpAny P .any ops Q n (listed.setIfInBounds i true)) (Q:=Q) hstep h (fun s' a' w' hk hrel=>by
 refine ih l' Ts' (listed.setIfInBounds i true) s' a' w' hlen (ho.sub hsub) (hok.sublist hsl) (fun p hp j hj=>hokT p (hsl.subset hp) j (hst j hj)) (by simpa using hsz) ?_ ?_ hk hrel
 ·intro j hj;rw[hmem j]
  by_cases hij:i=j
  ·subst hij;have:i<listed.size:=by rw[hsz];exact hilt
   simp[this]
  ·rw[getD_set_ne true hij,hl j hj];simp[Ne.symm hij]
 ·intro j hj o hoj e he hb
  by_cases hij:i=j
  ·subst hij;rw[hoi] at hoj;cases hoj;exact getD_set_true (hall e he hb)
  ·rw[getD_set_ne false hij] at hj;exact getD_set_true (hc j hj o hoj e he hb))
   split
   ·rename_i hw;rw[if_pos hw] at hS;exact .inl hS
   ·rename_i hw;rw[if_neg hw] at hS;exact hS
def I8(bl:List Nat)(ops:Array Oper)(perm T:List Nat):Bool:=
 decide ((perm++T).length=ops.size)&&(perm++T).all (fun i=>decide (i<ops.size))&&(List.range ops.size).all (fun i=>(perm++T).contains i)&&
 iE (rH bl ops) perm&&perm.all (fun p=>T.all fun i=>rH bl ops p i)&&iE (jd ops) (perm++T)&&(perm++T).all (fun i=>jd ops i i)&&(perm++T).all (fun i=>qH ops i)&&iE (fun i j=>i !=j) (perm++T)
def XB{P:Program}{bl:List Nat}{id:Nat}{ops:Array Oper}{Q:Exit->Act->World->Prop}{s:St}{B:Bs}{w:World}{a:Act}(perm T:List Nat){l:List Oper}{K:St->Prop}
 (hm:P.follows .mixedOrders=true)(hc:I8 bl ops perm T=true)(hl:perm.map (fun i=>ops.getD i default)=l)(hr:aX P bl ops l s (oM P bl ops K T.length T))
 (hpost:∀s' a' w',K s'->kD B s' a' w'->Q .normal a' w')(h:kD B s a w):(Code.region id ops true).wp P Q a w:=by
 simp only[I8,Bool.and_eq_true,decide_eq_true_eq] at hc;obtain⟨⟨⟨⟨⟨⟨⟨⟨hlen,hlt⟩,hall⟩,hpo⟩,hpt⟩,hnw⟩,hself⟩,hed⟩,hnd⟩:=hc;have hOrd:TK ops (perm++T):=⟨fun i hi=>of_decide_eq_true (List.all_eq_true.1 hlt i hi),gG hnw,fun i hi=>List.all_eq_true.1 hself i hi,fun i hi=>List.all_eq_true.1 hed i hi,(gG hnd).imp (fun h=>by simpa using h)⟩
 subst hl;have hK:KC (fun s'=>∃s0,Ce s0 s'∧K s0):=fun s1 s2 he ⟨s0,h0,h1⟩=>⟨s0,h0.trans he,h1⟩
 refine wp_region_any hm ?_;refine KX hK (fun s' a' w' ⟨s0,he,hk⟩ hrel=>hpost s0 a' w' hk (he.symm.rel hrel)) ops.size perm T _ s a _ hlen hOrd (gG hpo) (fun p hp i hi=>List.all_eq_true.1 (List.all_eq_true.1 hpt p hp) i hi) (by simp) ?_ ?_
  (hr.mono (fun s' hs'=>oM.mono (fun s1 h1=>⟨s1,Ce.refl _,h1⟩) _ _ s' hs')) h.drew
 ·intro j hj;have:j∈perm++T:=by
   have:=List.all_eq_true.1 hall j (List.mem_range.2 hj);exact List.contains_iff_mem.1 this
  simp only[this,iff_true];simp[hj]
 ·intro j hj
  exfalso
  rcases Nat.lt_or_ge j ops.size with h1|h1
  ·simp[h1] at hj
  ·simp[h1] at hj
def sS{P:Program}{B:Bs}{Q:Exit->Act->World->Prop}{s:St}{id:Nat}{l l':List Oper}(bl perm T:List Nat)(hm:P.follows .mixedOrders=true)(hc:I8 bl l.toArray perm T=true)(hl:perm.map (fun i=>l.toArray.getD i default)=l')
 (h:aX P bl l.toArray l' s (oM P bl l.toArray (fun s'=>At B s' (Q .normal)) T.length T)):At B s ((Code.region id l.toArray true).wp P Q):=fun a w hr=>
 XB (K:=fun s'=>At B s' (Q .normal)) perm T hm hc hl h (fun s' a' w' h1 h2=>h1 a' w' h2) hr
def aJ{P:Program}{bl:List Nat}{ops:Array Oper}{K:St->Prop}{n:Nat}{Ts:List Nat}{s:St}(l:List Nat)(hl:(Ts.filter fun i=> !Ts.any fun j=>waitsF ops ops.size i j)=l)
 (h:BB (fun i=>∃o,ops[i]? =some o∧aX P bl ops [o] s (fun s'=>oM P bl ops K n (Ts.filter (· !=i)) s')) l):oM P bl ops K (n+1) Ts s:=by
 subst hl;exact h
end Go.Via
namespace Go.Via
def jX{P:Program}{bl:List Nat}{ops:Array Oper}{K:St->Prop}{Ts:List Nat}{s:St}(h:Ts=[])(hk:K s):oM P bl ops K 0 Ts s:=⟨h,hk⟩
end Go.Via
namespace Go.Via
variable[Mo]
open Go Go.RowKit
def Fq(P:Program)(f:Nat)(L:List aF)(args:List Value)(X:Type)(res:X->Value)(new:X->List aF):Prop:=
 iF P f=true∧∀w:World,aT w L w->Calls P f args.toArray w fun e w'=>∃x,e= .returned (res x)∧aT w (new x) w'∧∀b∈new x,∀g,b.base=some g->w.heap.size<=g∨∃b0∈L,b0.base=some g
def Oe{B:Bs}{w:World}{L:List aF}(h:aT B L w)(k:Nat){b:aF}(hk:L[k]? =some b)(ho:b.own=true):∀g,b.base=some g->B.own g:=fun g hg=>((h.blk k b hk).1 g hg).2 ho
def aF.un(b:aF):aF:={b with own:=false}
theorem aT.un{B:Bs}{w:World}{L:List aF}(h:aT B L w):aT B (L.map aF.un) w:=h.mono fun k b' hk=>by
 rw[List.getElem?_map,Option.map_eq_some_iff] at hk;obtain⟨b,h1,rfl⟩:=hk;exact⟨b,h1,⟨rfl,rfl,rfl,⟨b.cs.length,by simp[aF.un]⟩,fun h=>by cases h⟩⟩
def Fq.mono{P:Program}{f:Nat}{L:List aF}{args:List Value}{X Y:Type}{res:X->Value}{new:X->List aF}{res':Y->Value}{new':Y->List aF}(h:Fq P f L args X res new)(m:∀x,∃y,res x=res' y∧new x=new' y):
 Fq P f L args Y res' new':=by
 refine⟨h.1,fun w hL=>(h.2 w hL).mono ?_⟩
 rintro e w' ⟨x,rfl,hx,hf⟩;obtain⟨y,h1,h2⟩:=m x;exact⟨y,by rw[h1],by rw[<-h2];exact hx,by rw[<-h2];exact hf⟩
def aT.joinA{B:Bs}{w w':World}{L L0 new:List aF}(h:aT B L w)(h':aT w new w')(hc:∀b0∈L0,∀g,b0.base=some g->∃(k:Nat) (b:aF),L[k]? =some b∧b.base=some g∧b.own=false)
 (hf:∀b∈new,∀g,b.base=some g->w.heap.size<=g∨∃b0∈L0,b0.base=some g)(hng:∀b∈new,b.base=none->b.e<bW):aT B (L++new) w':=by
 have hs:=h.same h'.below;refine⟨hs.bel,fun k b hk=>?_,fun i j g bi bj hij hi hj ho hg hgj=>?_,hs.grp.app (h'.grp.base h.bel.le) (fun b hb hn T hT he p hp c hc' ho hg=>?_) (fun b hb hn T hT he=>absurd (he▸hng b hb hn) (IU T))⟩
 rotate_left 2
 ·have h1:=(h.grp b hb hn T hT he p hp).1.lt;obtain⟨j,hj⟩:=List.mem_iff_getElem?.1 hc';have h2:=Dy (((h'.blk j c hj).1 _ hg).2 ho);omega
 ·rw[List.getElem?_append] at hk
  split at hk
  ·exact hs.blk k b hk
  ·obtain⟨a1,a2⟩:=h'.blk _ b hk;exact⟨fun g hg=>⟨(a1 g hg).1,fun ho=>h.bel.le _ ((a1 g hg).2 ho)⟩,a2⟩
 ·rw[List.getElem?_append] at hi hj
  split at hi<;>split at hj
  ·exact hs.apart i j g bi bj hij hi hj ho hg hgj
  ·have h1:=h.lt hi hg;rcases hf bj (List.mem_of_getElem? hj) g hgj with h2|⟨b0,h2,h3⟩
   ·omega
   ·obtain⟨k,b,h4,h5,h6⟩:=hc b0 h2 g h3
    by_cases e:i=k
    ·subst e;rw[hi] at h4;cases h4;rw[ho] at h6;cases h6
    ·exact h.apart i k g bi b e hi h4 ho hg h5
  ·have h1:=h.lt hj hgj;have h2:=Dy (((h'.blk _ bi hi).1 g hg).2 ho);omega
  ·exact h'.apart _ _ g bi bj (by omega) hi hj ho hg hgj
def TL(L:List aF)(k:Nat):Bool:=match L[k]? with
 |some b=> !b.own
 |none=>false
def I9{L:List aF}:∀{ks:List Nat} {L0:List aF},iJ L (ks.map some) L0->ks.all (TL L)=true->∀b0∈L0,∀g,b0.base=some g->∃(k:Nat) (b:aF),L[k]? =some b∧b.base=some g∧b.own=false
 |[],[],_,_,b0,h,_,_=>by cases h
 |[],_::_,hp,_,_,_,_,_=>hp.elim
 |_::_,[],hp,_,_,_,_,_=>hp.elim
 |k::ks,c::L0,hp,ho,b0,h,g,hg=>by
  rw[List.all_cons,Bool.and_eq_true] at ho;rcases List.mem_cons.1 h with rfl|h
  ·obtain⟨b,h1,h2⟩:=hp.1;have h3:=ho.1;unfold TL at h3;rw[h1] at h3;exact⟨k,b,h1,by rw[<-h2.1];exact hg,by simpa using h3⟩
  ·exact I9 hp.2 ho.2 b0 h g hg
section
variable{P:Program}{bl:List Nat}{ops:Array Oper}{K:St->Prop}{rest:List Oper}{nt:Nat}{t:List (Nat×Value)}{L:List aF}{d:Nat}{ty:TypeId}{pos:String}{af:Array Edge}{g:Option (Nat×Bool)}{x y:Operand}
def Ja{f:Nat}{args:List Operand}{ts:Array TypeId}(vs:List Value){L0:List aF}{X:Type}{res:X->Value}{new:X->List aF}(ks:List Nat)(hd:Nat.blt d nt=true)(hg:ax ops ⟨some d,.call {callee:= .value (.func f),args:=args.toArray,argTypes:=ts},ty,pos,af,g⟩ t=some true)
 (hv:args.map (ev t)=vs.map some)(hc:Fq P f L0 vs X res new)(hp:iJ L (ks.map some) L0)(ho:(L0.all fun b=> !b.own)=true)(hn:ks.all (TL L)=true)
 (h:∀x,aX P bl ops rest ⟨nt,(d,res x)::t,L++new x⟩ K)(hA:Ik bl=false:=by rfl)
 (hng:∀x,∀b∈new x,b.base=none->b.e<bW:=by intro x b hb _;(try simp only[List.mem_cons,List.not_mem_nil,or_false] at hb);first|(subst hb;exact Nat.le_of_ble_eq_true rfl)|(rcases hb with rfl|rfl<;>exact Nat.le_of_ble_eq_true rfl)|(rw[List.mem_singleton.1 hb];exact Nat.le_of_ble_eq_true rfl)):
 aX P bl ops (⟨some d,.call {callee:= .value (.func f),args:=args.toArray,argTypes:=ts},ty,pos,af,g⟩::rest) ⟨nt,t,L⟩ K:=
 DK hd hg rfl (X:=X) (res:=res) (new:=new) (qfo (s:=⟨nt,t,L⟩) rfl hv hc.1 fun B w hL=>(hc.2 w (hL.asArgs ks hp (fun b hb=>by simpa using List.all_eq_true.1 ho b hb))).mono (by
 rintro e w' ⟨x,rfl,hx,hf⟩;exact⟨x,rfl,hL.joinA hx (I9 hp hn) hf (hng x)⟩)) (fun h1=>by rw[hA] at h1;cases h1) fun x=>h x
end
end Go.Via
namespace Go.Via
variable[Mo]
open Go Go.RowKit
def aT.perm{B:Bs}{w:World}{L L':List aF}(hp:List.Perm L L')(h:aT B L w):aT B L' w:=by
 have key:L.Pairwise (fun bi bj=>(bi.own=true∨bj.own=true)->∀g,bi.base=some g->bj.base≠some g):=by
  rw[List.pairwise_iff_getElem];intro i j hi hj hij ho g hg hgj;rcases ho with ho|ho
  ·exact h.apart i j g _ _ (by omega) (List.getElem?_eq_getElem hi) (List.getElem?_eq_getElem hj) ho hg hgj
  ·exact h.apart j i g _ _ (by omega) (List.getElem?_eq_getElem hj) (List.getElem?_eq_getElem hi) ho hgj hg
 have key':=(hp.pairwise_iff (fun {x y} hxy ho g hy hx=>hxy ho.symm g hx hy)).1 key;rw[List.pairwise_iff_getElem] at key';refine⟨h.bel,fun k b hk=>?_,fun i j g bi bj hij hi hj ho hg hgj=>?_,h.grp.mem fun b hb=>hp.symm.subset hb⟩
 ·have hm:=hp.symm.subset (List.mem_of_getElem? hk);obtain⟨m,hm⟩:=List.mem_iff_getElem?.1 hm;exact h.blk m b hm
 ·obtain⟨hi1,rfl⟩:=List.getElem?_eq_some_iff.1 hi;obtain⟨hj1,rfl⟩:=List.getElem?_eq_some_iff.1 hj;rcases Nat.lt_or_gt_of_ne hij with c|c
  ·exact key' i j hi1 hj1 c (.inl ho) g hg hgj
  ·exact key' j i hj1 hi1 c (.inr ho) g hgj hg
def Vs(s:St)(dst:Option Nat)(v:Value):(s.put dst v).L=s.L:=by cases dst<;>rfl
structure su(s s':St):Prop where
 nt:s.nt=s'.nt
 L:List.Perm s.L s'.L
 look:∀d,look s.t d=look s'.t d
def su.rel{s s':St}(h:su s s'){B:Bs}{w:World}{a:Act}(r:kD B s' a w):kD B s a w:=
 ⟨r.df,r.size.trans h.nt.symm,fun d v hd=>r.tmp d v (by rw[<-h.look d];exact hd),r.mem.perm h.L.symm⟩
def su.refl(s:St):su s s:=⟨rfl,List.Perm.refl _,fun _=>rfl⟩
theorem su.symm{s s':St}(h:su s s'):su s' s:=⟨h.nt.symm,h.L.symm,fun d=>(h.look d).symm⟩
def su.trans{s s' s'':St}(h:su s s')(k:su s' s''):su s s'':=⟨h.nt.trans k.nt,h.L.trans k.L,fun d=>(h.look d).trans (k.look d)⟩
theorem su.put{s s':St}(h:su s s')(dst:Option Nat)(sv:Value)(new:List aF):su (({s with L:=s.L++new}:St).put dst sv) (({s' with L:=s'.L++new}:St).put dst sv):=by
 cases dst with
 |none=>exact⟨h.nt,h.L.append_right _,h.look⟩
 |some d=>
  refine⟨h.nt,h.L.append_right _,fun k=>?_⟩
  by_cases e:d=k
  ·subst e;simp[St.put,dW]
  ·simp[St.put,bT e,h.look k]
def su.put0{s s':St}(h:su s s')(dst:Option Nat)(sv:Value):su (s.put dst sv) (s'.put dst sv):=by
 have:=h.put dst sv []
 simpa using this
theorem su.wanted{s s':St}(h:su s s')(ops:Array Oper)(o:Oper):ax ops o s.t=ax ops o s'.t:=by
 unfold ax
 split
 ·rfl
 ·split
  ·rw[h.look]
  ·rfl
def KCP(K:St->Prop):Prop:=∀s s',su s s'->K s->K s'
def KCP.kc{K:St->Prop}(h:KCP K):KC K:=fun s s' he=>h s s' ⟨he.nt,he.L▸List.Perm.refl _,he.look⟩
theorem Jb:∀{bl:List Nat} {L:List aF},Fa bl=false->blank bl L=L
 |[],L,_=>rfl
 |k::bl,L,h=>by
  unfold Fa at h;rw[List.any_cons,Bool.or_eq_false_iff] at h;unfold blank;rw[h.1];exact Jb (bl:=bl) h.2
theorem Og{bl:List Nat}{s:St}(h:Fa bl=false):s.bk bl=s:=by show St.mk s.nt s.t (blank bl s.L)=s;rw[Jb h]
def iD.congrP{P:Program}{bl:List Nat}{ops:Array Oper}{o:Oper}{s s':St}{K:St->Prop}(hA:Ik bl=true)(hS:Fa bl=false)(hK:KCP K)(h:su s s')(hs:iD P bl ops o s K):iD P bl ops o s' K:=by
 obtain⟨h0,g,hg,hh⟩:=hs;refine⟨by rw[<-h.nt];exact h0,g,by rw[<-h.wanted];exact hg,?_⟩;rcases hh with⟨h1,h2⟩|⟨h1,⟨h2,sv,h3,h4⟩|⟨h2,X,res,new,h3,hF,h4⟩|⟨hm,hA',hm',X,nx,h3,h4⟩|⟨hm,hd,L',h3,h5,h4⟩|⟨hA',e,cs,h3,h4⟩|⟨hC,hbS,X,res,nL,h3,h5,h4⟩⟩
 ·exact .inl ⟨h1,hK _ _ (h.put0 _ _) h2⟩
 ·refine .inr ⟨h1,.inl ⟨h2,sv,⟨fun B a w hr=>?_,fun h5 h6=>by rw[<-Gz h.look];exact h3.2 h5 h6⟩,hK _ _ (h.put0 _ _) h4⟩⟩
  have h3:=h3.1;rw[Og hS] at hr h3;exact h3 B a w (h.rel hr)
 ·obtain⟨hF1,hX⟩:=hF hA;refine .inr ⟨h1,.inr (.inl ⟨h2,X,res,new,fun B a w hr=>?_,fun hb=>⟨fun B a w hr=>hF1 B a w (h.rel hr),hX⟩,fun x=>hK _ _ (h.put _ _ _) (h4 x)⟩)⟩
  obtain⟨f,args,r1,r2⟩:=hF1 B a w (h.rel hr);refine⟨f,args,r1,r2.mono ?_⟩;rintro e w' ⟨x,rfl,hx,hown⟩;exact⟨x,rfl,hr.mem.joinF hx hown⟩
 ·exact .inr ⟨h1,.inr (.inr (.inl ⟨hm,hA',hm',X,nx,fun B a w hr=>h3 B a w (h.rel hr),h4⟩))⟩
 ·exact .inr ⟨h1,.inr (.inr (.inr (.inl ⟨hm,hd,L',fun B a w hr=>h3 B a w (h.rel hr),(fun hb=>by rw[hS] at hb;cases hb),hK {s with L:=L'} {s' with L:=L'} ⟨h.nt,List.Perm.refl _,h.look⟩ h4⟩)))⟩
 ·exact .inr ⟨h1,.inr (.inr (.inr (.inr (.inl ⟨hA',e,cs,by rw[<-IW h.look];exact h3,fun g=>hK _ _ (h.put _ _ _) (h4 g)⟩))))⟩
 ·rw[hS] at hbS;cases hbS
def aX.kcP{P:Program}{bl:List Nat}{ops:Array Oper}{K:St->Prop}(hA:Ik bl=true)(hS:Fa bl=false)(hK:KCP K):∀l:List Oper,KCP (fun s=>aX P bl ops l s K)
 |[]=>hK
 |o::l=>fun _ _ h hs=>iD.congrP hA hS (aX.kcP hA hS hK l) h hs
theorem Vt{o:Oper}(h:iq o=true∨isAl o=true):isSto o=false:=by
 unfold isSto
 split<;>first|rfl|(rename_i heq
                    rcases h with h|h
                    ·unfold iq at h;rw[heq] at h;cases h
                    ·unfold isAl at h;rw[heq] at h;cases h)
def iD.laterA{P:Program}{bl:List Nat}{ops:Array Oper}{p:Oper}{s:St}{K:St->Prop}{dst:Option Nat}{u:Value}{E:List aF}(hA:Ik bl=true)(hS:Fa bl=false)(hp:iq p=true∨isAl p=true)(hM:Il bl=false)
 (hd:∀d,dst=some d->d<s.nt)(hl:∀d,dst=some d->d∉p.looksAt ops)(hne:∀d,p.dst=some d->dst≠some d)
 (h:iD P bl ops p s (fun s1=>∀s2,su (({s1 with L:=s1.L++E}:St).put dst u) s2->K s2)):iD P bl ops p (({s with L:=s.L++E}:St).put dst u) K:=by
 have hns:∀cs b,p.op≠ .select cs b:=fun cs b e=>by
  rcases hp with hp|hp
  ·unfold iq at hp;rw[e] at hp;cases hp
  ·unfold isAl at hp;rw[e] at hp;cases hp
 have hn:(({s with L:=s.L++E}:St).put dst u).nt=s.nt:=by cases dst<;>rfl
 have hLL:(({s with L:=s.L++E}:St).put dst u).L=s.L++E:=by cases dst<;>rfl
 have comm:∀(x:Value) (new:List aF),su (({(({s with L:=s.L++new}:St).put p.dst x) with L:=(({s with L:=s.L++new}:St).put p.dst x).L++E}:St).put dst u)
  (({(({s with L:=s.L++E}:St).put dst u) with L:=(({s with L:=s.L++E}:St).put dst u).L++new}:St).put p.dst x):=by
  intro x new;have e1:(({s with L:=s.L++new}:St).put p.dst x).L=s.L++new:=by cases p.dst<;>rfl
  refine⟨?_,?_,?_⟩
  ·cases p.dst<;>cases dst<;>rfl
  ·have a1:=(Vs ({(({s with L:=s.L++new}:St).put p.dst x) with L:=(({s with L:=s.L++new}:St).put p.dst x).L++E}:St) dst u).trans (congrArg (· ++E) (Vs ({s with L:=s.L++new}:St) p.dst x))
   have a2:=(Vs ({(({s with L:=s.L++E}:St).put dst u) with L:=(({s with L:=s.L++E}:St).put dst u).L++new}:St) p.dst x).trans (congrArg (· ++new) (Vs ({s with L:=s.L++E}:St) dst u))
   have a3:List.Perm (s.L++new++E) (s.L++E++new):=by
    rw[List.append_assoc,List.append_assoc];exact List.Perm.append_left _ List.perm_append_comm
   exact(List.Perm.of_eq a1).trans (a3.trans (List.Perm.of_eq a2.symm))
  ·intro d;cases hp:p.dst with
   |none=>cases dst<;>simp[St.put]
   |some dp=>
    cases dst with
    |none=>simp[St.put]
    |some di=>
     have hne':di≠dp:=fun e=>hne dp hp (by rw[e])
     simp only[St.put]
     by_cases e1:di=d
     ·subst e1;rw[dW,bT (Ne.symm hne'),dW]
     ·rw[bT e1]
      by_cases e2:dp=d
      ·subst e2;rw[dW,dW]
      ·rw[bT e2,bT e2,bT e1]
 obtain⟨h0,g,hg,hh⟩:=h;refine⟨by rw[hn];exact h0,g,?_,?_⟩
 ·have:=qX (ops:=ops) (o:=p) (s:={s with L:=s.L++E}) (dst:=dst) (v:=u) hl
  rw[this];exact hg
 have c0:∀(x:Value),(({s with L:=s.L++[]}:St).put p.dst x)=s.put p.dst x:=fun x=>by simp
 have c1:∀(x:Value),({(({s with L:=s.L++E}:St).put dst u) with L:=(({s with L:=s.L++E}:St).put dst u).L++[]}:St).put p.dst x=(({s with L:=s.L++E}:St).put dst u).put p.dst x:=fun x=>by simp
 have comm0:∀(x:Value),su (({s.put p.dst x with L:=(s.put p.dst x).L++E}:St).put dst u) ((({s with L:=s.L++E}:St).put dst u).put p.dst x):=fun x=>by
  have:=comm x [];rw[c0,c1] at this;exact this
 have back:∀(B:Bs) (a:Act) (w:World),kD B (({s with L:=s.L++E}:St).put dst u) a w->∃v,kD B s (a.put dst v) w∧execOp (a.put dst v).eval p=execOp a.eval p:=fun B a w hr=>by
  obtain⟨v,hv⟩:=kD.putBack (s:=s) (new:=E) hd hr;exact⟨v,hv,execOp_put p hns a dst v hl⟩
 rcases hh with⟨h1,h2⟩|⟨h1,⟨h2,sv,h3,h4⟩|⟨h2,X,res,new,h3,hF,h4⟩|⟨hm,hA',hm',X,nx,h3,h4⟩|⟨hm,hd',L',h3,h5,h4⟩|⟨hA',e,cs,h3,h4⟩|⟨hC,hbS,X,res,nL,h3,h5,h4⟩⟩
 ·exact .inl ⟨h1,h2 _ (comm0 _)⟩
 ·refine .inr ⟨h1,.inl ⟨h2,sv,⟨fun B a w hr=>?_,fun h5 h6=>by rw[Am (s:={s with L:=s.L++E}) hl];exact h3.2 h5 h6⟩,h4 _ (comm0 _)⟩⟩
  have h3:=h3.1;rw[Og hS] at hr h3;obtain⟨v,hv,he⟩:=back B a w hr;have:=h3 B _ w hv
  rwa [he] at this
 ·obtain⟨hF1,hX⟩:=hF hA;have hFl:DD P p (({s with L:=s.L++E}:St).put dst u) X res new:=fun B a w hr=>by
   obtain⟨v,hv,he⟩:=back B a w hr;have:=hF1 B _ w hv
   rwa [he] at this
  refine .inr ⟨h1,.inr (.inl ⟨h2,X,res,new,fun B a w hr=>?_,fun _=>⟨hFl,hX⟩,fun x=>h4 x _ (comm _ _)⟩)⟩
  obtain⟨f,args,r1,r2⟩:=hFl B a w hr;refine⟨f,args,r1,r2.mono ?_⟩;rintro e w' ⟨x,rfl,hx,hown⟩;exact⟨x,rfl,hr.mem.joinF hx hown⟩
 ·exfalso
  rcases hp with hp|hp
  ·rw[hM,show NZ bl p=true by simp[NZ,hp]] at hm;cases hm
  ·rw[hA,hp] at hA';cases hA'
 ·rw[Vt hp] at hm;cases hm
 ·exact .inr ⟨h1,.inr (.inr (.inr (.inr (.inl ⟨hA',e,cs,by rw[IV (s:={s with L:=s.L++E}) hl];exact h3,fun g=>h4 g _ (comm _ _)⟩))))⟩
 ·rw[hS] at hbS;cases hbS
theorem iD.some{P:Program}{bl:List Nat}{ops:Array Oper}{p:Oper}{s:St}{K:St->Prop}(hS:Fa bl=false)(hA:Ik bl=true)(hp:iq p=true∨isAl p=true)(hM:Il bl=false)(h:iD P bl ops p s K):
 ∃x new,K (({s with L:=s.L++new}:St).put p.dst x):=by
 obtain⟨h0,g,hg,hh⟩:=h;rcases hh with⟨h1,h2⟩|⟨h1,⟨h2,sv,h3,h4⟩|⟨h2,X,res,new,h3,hF,h4⟩|⟨hm,hA',hm',X,nx,h3,h4⟩|⟨hm,hd',L',h3,h5,h4⟩|⟨hA',e,cs,h3,h4⟩|⟨hC,hbS,X,res,nL,h3,h5,h4⟩⟩
 ·exact⟨undef,[],by simpa using h2⟩
 ·exact⟨sv,[],by simpa using h4⟩
 ·obtain⟨_,⟨x⟩⟩:=hF hA;exact⟨_,_,h4 x⟩
 ·exfalso
  rcases hp with hp|hp
  ·rw[hM,show NZ bl p=true by simp[NZ,hp]] at hm;cases hm
  ·rw[hA,hp] at hA';cases hA'
 ·rw[Vt hp] at hm;cases hm
 ·exact⟨_,_,h4 0⟩
 ·rw[hS] at hbS;cases hbS
def iD.form{P:Program}{bl:List Nat}{ops:Array Oper}{p:Oper}{s:St}{K:St->Prop}(hS:Fa bl=false)(hA:Ik bl=true)(hp:iq p=true∨isAl p=true)(hM:Il bl=false)(h:iD P bl ops p s K):
 iD P bl ops p s (fun s1=>K s1∧∃x new,s1=(({s with L:=s.L++new}:St).put p.dst x)):=by
 obtain⟨h0,g,hg,hh⟩:=h;refine⟨h0,g,hg,?_⟩;rcases hh with⟨h1,h2⟩|⟨h1,⟨h2,sv,h3,h4⟩|⟨h2,X,res,new,h3,hF,h4⟩|⟨hm,hA',hm',X,nx,h3,h4⟩|⟨hm,hd',L',h3,h5,h4⟩|⟨hA',e,cs,h3,h4⟩|⟨hC,hbS,X,res,nL,h3,h5,h4⟩⟩
 ·exact .inl ⟨h1,h2,undef,[],by simp⟩
 ·exact .inr ⟨h1,.inl ⟨h2,sv,h3,h4,sv,[],by simp⟩⟩
 ·exact .inr ⟨h1,.inr (.inl ⟨h2,X,res,new,h3,hF,fun x=>⟨h4 x,_,_,rfl⟩⟩)⟩
 ·exfalso
  rcases hp with hp|hp
  ·rw[hM,show NZ bl p=true by simp[NZ,hp]] at hm;cases hm
  ·rw[hA,hp] at hA';cases hA'
 ·rw[Vt hp] at hm;cases hm
 ·exact .inr ⟨h1,.inr (.inr (.inr (.inr (.inl ⟨hA',e,cs,h3,fun g=>⟨h4 g,_,_,rfl⟩⟩))))⟩
 ·rw[hS] at hbS;cases hbS
def aX.swapA{P:Program}{bl:List Nat}{ops:Array Oper}{p i:Oper}{rest:List Oper}{s:St}{K:St->Prop}(hA:Ik bl=true)(hS:Fa bl=false)(hM:Il bl=false)(hK:KCP K)(hp:iq p=true∨isAl p=true)(hi:isAl i=true)
 (hap:p.apart ops i=true)(h:aX P bl ops (p::i::rest) s K):aX P bl ops (i::p::rest) s K:=by
 obtain⟨ap1,ap2,ap3⟩:=Oper.apart_spec hap;have h':iD P bl ops p s (fun s'=>iD P bl ops i s' (fun s2=>aX P bl ops rest s2 K)):=h;have hne:∀d,p.dst=some d->i.dst≠some d:=ap2;have hw:∀(x:Value) (new:List aF),ax ops i (({s with L:=s.L++new}:St).put p.dst x).t=ax ops i s.t:=fun x new=>qX (s:={s with L:=s.L++new}) ap1
 have hci:jy i=false:=by
  unfold isAl at hi;unfold jy
  split at hi
  ·rename_i heq;rw[heq]
  ·rename_i heq;rw[heq]
  ·cases hi
 have what:∀{s1:St},iD P bl ops i s1 (fun s2=>aX P bl ops rest s2 K)->(∃x new,s1=(({s with L:=s.L++new}:St).put p.dst x))->
  (∀d,i.dst=some d->d<s.nt)∧((ax ops i s.t=some false∧aX P bl ops rest (s1.put i.dst undef) K)∨
 (ax ops i s.t=some true∧∃e cs,yQ P s.t i=some (e,cs)∧∀g,aX P bl ops rest (({s1 with L:=s1.L++[alB g e cs]}:St).put i.dst (alV i g)) K)):=by
  rintro s1 ⟨k0,g,hk,hh⟩ ⟨x,new,rfl⟩;rw[hw] at hk;refine⟨fun d hd=>by have:=k0 d hd;rwa [show(({s with L:=s.L++new}:St).put p.dst x).nt=s.nt by cases p.dst<;>rfl] at this,?_⟩
  rcases hh with⟨rfl,h2⟩|⟨rfl,⟨h2,sv,h3,h4⟩|⟨h2,X,res,new,h3,hF,h4⟩|⟨hm,hA',hm',X,nx,h3,h4⟩|⟨hm,hd',L',h3,h5,h4⟩|⟨hA',e,cs,h3,h4⟩|⟨hC,hbS,X,res,nL,h3,h5,h4⟩⟩
  ·exact .inl ⟨hk,h2⟩
  ·rw[hA,hi] at h2;cases h2
  ·rw[hci] at h2;cases h2
  ·rw[hA,hi] at hA';cases hA'
  ·rw[Vt (.inr hi)] at hm;cases hm
  ·exact .inr ⟨hk,e,cs,by rw[<-IV (s:={s with L:=s.L++new}) ap1];exact h3,h4⟩
  ·rw[hS] at hbS;cases hbS
 have hf:=h'.form hS hA hp hM;obtain⟨x0,new0,k0,kf⟩:=hf.some hS hA hp hM;obtain⟨hb,hcase⟩:=what k0 kf;rcases hcase with⟨hk,_⟩|⟨hk,e,cs,hal,_⟩
 ·refine⟨hb,false,hk,.inl ⟨rfl,?_⟩⟩;have e:s.put i.dst undef=({s with L:=s.L++[]}:St).put i.dst undef:=by simp
  rw[e];refine iD.laterA hA hS hp hM hb ap3 hne (hf.mono ?_);rintro s1 ⟨hs1,hform⟩ s2 he;rcases(what hs1 hform).2 with⟨_,h2⟩|⟨h2,_⟩
  ·refine aX.kcP hA hS hK rest _ _ he ?_;have e:s1.put i.dst undef=({s1 with L:=s1.L++[]}:St).put i.dst undef:=by simp
   rw[<-e];exact h2
  ·rw[hk] at h2;cases h2
 ·refine⟨hb,true,hk,.inr ⟨rfl,.inr (.inr (.inr (.inr (.inl ⟨hi,e,cs,hal,fun gg=>?_⟩))))⟩⟩;refine iD.laterA hA hS hp hM hb ap3 hne (hf.mono ?_);rintro s1 ⟨hs1,hform⟩ s2 he;rcases(what hs1 hform).2 with⟨h2,_⟩|⟨_,e',cs',hal',h2⟩
  ·rw[hk] at h2;cases h2
  ·rw[hal] at hal';cases hal';exact aX.kcP hA hS hK rest _ _ he (h2 gg)
def XC{o:Oper}(hi:yR o=true):iq o=true∧jy o=false∧isAl o=false∧isSto o=false:=by
 unfold yR at hi
 split at hi
 ·rename_i heq;exact⟨by unfold iq;rw[heq],by unfold jy;rw[heq],by unfold isAl;rw[heq],by unfold isSto;rw[heq]⟩
 ·rename_i heq;exact⟨by unfold iq;rw[heq],by unfold jy;rw[heq],by unfold isAl;rw[heq],by unfold isSto;rw[heq]⟩
 ·rename_i heq;exact⟨by unfold iq;rw[heq],by unfold jy;rw[heq],by unfold isAl;rw[heq],by unfold isSto;rw[heq]⟩
 ·cases hi
def aX.swapQ{P:Program}{bl:List Nat}{ops:Array Oper}{p i:Oper}{rest:List Oper}{s:St}{K:St->Prop}(hA:Ik bl=true)(hS:Fa bl=false)(hM:Il bl=false)(hK:KCP K)(hp:isSto p=true∨isAl p=true)(hpg:p.guard=none)(hi:yR i=true)
 (hap:p.apart ops i=true)(h:aX P bl ops (p::i::rest) s K):aX P bl ops (i::p::rest) s K:=by
 obtain⟨ap1,ap2,ap3⟩:=Oper.apart_spec hap;have h':iD P bl ops p s (fun s'=>iD P bl ops i s' (fun s2=>aX P bl ops rest s2 K)):=h;obtain⟨h0,g,hg,hh⟩:=h';have hg1:g=true:=by
  unfold ax at hg;rw[hpg] at hg;simpa using hg.symm
 subst hg1;have hnp:(Ik bl&&(isAl p||isSto p))=false->False:=fun h1=>by rcases hp with hp|hp<;>rw[hA,hp] at h1<;>simp at h1
 have hcp:jy p=false:=by
  rcases hp with hp|hp
  ·unfold isSto at hp
   split at hp<;>first|(cases hp;done)|(rename_i heq;unfold jy;rw[heq])
  ·unfold isAl at hp
   split at hp
   ·rename_i heq;unfold jy;rw[heq]
   ·rename_i heq;unfold jy;rw[heq]
   ·cases hp
 obtain⟨m1,m2,m3,m4⟩:=XC hi;have hns:∀cs b,p.op≠ .select cs b:=fun cs b e=>by
  rcases hp with hp|hp
  ·unfold isSto at hp;rw[e] at hp;cases hp
  ·unfold isAl at hp;rw[e] at hp;cases hp
 have hwp:∀s':St,ax ops p s'.t=some true:=fun s'=>by unfold ax;rw[hpg]
 have what:∀{s1:St},iD P bl ops i s1 (fun s2=>aX P bl ops rest s2 K)->s1.nt=s.nt->(ax ops i s1.t=ax ops i s.t)->nz P s1.t i=nz P s.t i->
  (∀d,i.dst=some d->d<s.nt)∧((ax ops i s.t=some false∧aX P bl ops rest (s1.put i.dst undef) K)∨(ax ops i s.t=some true∧∃v,nz P s.t i=some v∧aX P bl ops rest (s1.put i.dst v) K)):=by
  rintro s1 ⟨k0,gi,hgi,kk⟩ e1 e2 e3;rw[e2] at hgi;refine⟨fun d hd=>by rw[<-e1];exact k0 d hd,?_⟩;rcases kk with⟨h1,h2⟩|⟨h1,⟨h2,sv,q3,q4⟩|⟨h2,X,res,new,q3,hF,q4⟩|⟨qm,hA',qm',X,nx,q3,q4⟩|⟨qm,qd,L'',q3,q5,q4⟩|⟨hA',e,cs,q3,q4⟩|⟨hC,hbS,X,res,nL,q3,q5,q4⟩⟩
  ·exact .inl ⟨by rw[hgi,h1],h2⟩
  ·exact .inr ⟨by rw[hgi,h1],sv,by rw[<-e3];exact q3.2 hA hi,q4⟩
  ·rw[m2] at h2;cases h2
  ·rw[hM,show NZ bl i=true by simp[NZ,m1]] at qm;cases qm
  ·rw[m4] at qm;cases qm
  ·rw[m3] at hA';cases hA'
  ·rw[hS] at hbS;cases hbS
 have ahead:∀(v:Value),(ax ops i s.t=some false∧v=undef∨ax ops i s.t=some true∧nz P s.t i=some v)->(∀d,i.dst=some d->d<s.nt)->aX P bl ops (p::rest) (s.put i.dst v) K->aX P bl ops (i::p::rest) s K:=by
  intro v hv hb hr;rcases hv with⟨h1,rfl⟩|⟨h1,h2⟩
  ·exact⟨hb,false,h1,.inl ⟨rfl,hr⟩⟩
  ·exact⟨hb,true,h1,.inr ⟨rfl,.inl ⟨by rw[m3,m4];simp,v,⟨by rw[Og hS];exact PV h2,fun _ _=>h2⟩,hr⟩⟩⟩
 rcases hh with⟨h1,_⟩|⟨_,⟨h2,sv,h3,h4⟩|⟨h2,X,res,new,h3,hF,h4⟩|⟨hm,hA',hm',X,nx,h3,h4⟩|⟨hm,hd,L',h3,h5,h4⟩|⟨hA',e,cs,h3,h4⟩|⟨hC,hbS,X,res,nL,h3,h5,h4⟩⟩
 ·cases h1
 ·exact(hnp h2).elim
 ·rw[hcp] at h2;cases h2
 ·exact(hnp hA').elim
 ·
  obtain⟨hb,hc⟩:=what h4 rfl rfl rfl;have behind:∀(v:Value),aX P bl ops rest ((({s with L:=L'}:St)).put i.dst v) K->aX P bl ops (p::rest) (s.put i.dst v) K:=by
   intro v hr;refine⟨fun d hd'=>(by rw[hd] at hd';cases hd'),true,hwp _,.inr ⟨rfl,.inr (.inr (.inr (.inl ⟨hm,hd,L',fun B a w hrel=>?_,(fun hb=>by rw[hS] at hb;cases hb),?_⟩)))⟩⟩
   ·have hrel':kD B (({s with L:=s.L++[]}:St).put i.dst v) a w:=by simpa using hrel
    obtain⟨u,hu⟩:=kD.putBack (s:=s) (new:=[]) hb hrel';have:=h3 B _ w hu
    rwa [execOp_put p hns a i.dst u ap3] at this
   ·have e:({s.put i.dst v with L:=L'}:St)=(({s with L:=L'}:St)).put i.dst v:=by cases i.dst<;>rfl
    rw[e];exact hr
  rcases hc with⟨c1,c2⟩|⟨c1,v,c2,c3⟩
  ·exact ahead undef (.inl ⟨c1,rfl⟩) hb (behind _ c2)
  ·exact ahead v (.inr ⟨c1,c2⟩) hb (behind _ c3)
 ·
  have hs1:∀gg,(({s with L:=s.L++[alB gg e cs]}:St).put p.dst (alV p gg)).nt=s.nt:=fun gg=>by cases p.dst<;>rfl
  have hw1:∀gg,ax ops i (({s with L:=s.L++[alB gg e cs]}:St).put p.dst (alV p gg)).t=ax ops i s.t:=fun gg=>qX (s:={s with L:=s.L++[alB gg e cs]}) ap1
  have hv1:∀gg,nz P (({s with L:=s.L++[alB gg e cs]}:St).put p.dst (alV p gg)).t i=nz P s.t i:=fun gg=>Am (s:={s with L:=s.L++[alB gg e cs]}) ap1
  have hp2:iq p=true∨isAl p=true:= .inr hA';have hpi:∀d,p.dst=some d->i.dst≠some d:=ap2;have behind:∀(v:Value),(∀d,i.dst=some d->d<s.nt)->(∀gg,aX P bl ops rest ((({s with L:=s.L++[alB gg e cs]}:St).put p.dst (alV p gg)).put i.dst v) K)->aX P bl ops (p::rest) (s.put i.dst v) K:=by
   intro v hb hr;have e:s.put i.dst v=({s with L:=s.L++[]}:St).put i.dst v:=by simp
   rw[e];refine iD.laterA (K:=fun s2=>aX P bl ops rest s2 K) hA hS hp2 hM hb ap3 hpi ⟨h0,true,hg,.inr ⟨rfl,.inr (.inr (.inr (.inr (.inl ⟨hA',_,cs,h3,fun gg s2 he=>?_⟩))))⟩⟩;refine aX.kcP hA hS hK rest _ _ he ?_;have:=hr gg
   simpa using this
  obtain⟨hb,hc⟩:=what (h4 0) (hs1 0) (hw1 0) (hv1 0);rcases hc with⟨c1,_⟩|⟨c1,v,c2,_⟩
  ·refine ahead undef (.inl ⟨c1,rfl⟩) hb (behind _ hb fun gg=>?_);rcases(what (h4 gg) (hs1 gg) (hw1 gg) (hv1 gg)).2 with⟨_,d2⟩|⟨d1,_⟩
   ·exact d2
   ·rw[c1] at d1;cases d1
  ·refine ahead v (.inr ⟨c1,c2⟩) hb (behind _ hb fun gg=>?_);rcases(what (h4 gg) (hs1 gg) (hw1 gg) (hv1 gg)).2 with⟨d1,_⟩|⟨_,v',d2,d3⟩
   ·rw[c1] at d1;cases d1
   ·rw[c2] at d2;cases d2;exact d3
 ·rw[hS] at hbS;cases hbS
def Jc(bl:List Nat)(ops:Array Oper)(op oi:Oper):Bool:=
 op.apart ops oi&&(((iq op&&uF bl oi&& !jy op)||(isAl oi&&(iq op||isAl op)))||((isSto op||isAl op)&&yR oi&&op.guard.isNone))
def aX.frontA{P:Program}{bl:List Nat}{ops:Array Oper}{i:Oper}{post:List Oper}{K:St->Prop}(hA:Ik bl=true)(hS:Fa bl=false)(hM:Il bl=false)(hK:KCP K):∀{pre:List Oper} {s:St},
 (∀p∈pre,Jc bl ops p i=true)->aX P bl ops (pre++i::post) s K->aX P bl ops (i::(pre++post)) s K
 |[],s,_,h=>h
 |p::pre,s,hp,h=>by
  have h1:iD P bl ops p s (fun s'=>aX P bl ops (pre++i::post) s' K):=h;have h2:aX P bl ops (p::i::(pre++post)) s K:=by
   refine iD.mono ?_ h1;intro s' hr;exact aX.frontA hA hS hM hK (fun q hq=>hp q (by simp[hq])) hr
  have hpp:=hp p (by simp);simp only[Jc,Bool.and_eq_true,Bool.or_eq_true,Bool.not_eq_true'] at hpp;obtain⟨ha,(⟨⟨hm,hf⟩,hc⟩|⟨hi,hm⟩)|⟨⟨hs,hi⟩,hg⟩⟩:=hpp
  ·exact aX.swap (hK.kc) hm hf hc ha h2
  ·exact aX.swapA hA hS hM hK hm hi ha h2
  ·exact aX.swapQ hA hS hM hK hs (by simpa using hg) hi ha h2
def DU(bl:List Nat)(ops:Array Oper)(p i:Nat):Bool:=
 waitsF ops ops.size i p||
 match ops[p]?,ops[i]? with
 |some op,some oi=>Jc bl ops op oi
 |_,_=>false
def yY(bl:List Nat)(ops:Array Oper)(perm:List Nat):Bool:=
 decide (perm.length=ops.size)&&perm.all (fun i=>decide (i<ops.size))&&(List.range ops.size).all (fun i=>perm.contains i)&&
 iE (DU bl ops) perm&&iE (jd ops) perm&&perm.all (fun i=>jd ops i i)&&perm.all (fun i=>qH ops i)&&iE (fun i j=>i !=j) perm&&Ik bl&& !Fa bl&& !Il bl
def KY{P:Program}{bl:List Nat}{ops:Array Oper}{Q:Exit->Act->World->Prop}{K:St->Prop}{B:Bs}(hA:Ik bl=true)(hS:Fa bl=false)(hM:Il bl=false)(hK:KCP K)(hpost:∀s' a' w',K s'->kD B s' a' w'->Q .normal a' w'):
 ∀(n:Nat) (l:List Nat) (listed:Array Bool) (s:St) (a:Act) (w:World),l.length=n->TK ops l->l.Pairwise (fun p i=>DU bl ops p i=true)->listed.size=ops.size->
  (∀j,j<ops.size->(listed.getD j true=false↔j∈l))->N7 ops listed->aX P bl ops (l.map fun i=>ops.getD i default) s K->kD B s a w->
  wpAny P .any ops Q n listed a w:=by
 intro n
 induction n with
 |zero=>
  intro l listed s a w hn ho hok hsz hl hc hr h;have:l=[]:=List.eq_nil_of_length_eq_zero hn;subst this;refine⟨?_,hpost _ _ _ hr h⟩;rcases hh:Region.ready .any ops listed with _|⟨i,r⟩
  ·rfl
  ·exfalso
   obtain⟨h1,o,ho',_⟩:=mem_ready.1 (show i∈Region.ready .any ops listed by rw[hh];simp);have:=(hl i (Array.getElem?_eq_some_iff.1 ho').1).1 h1;simp at this
 |succ n ih=>
  intro l listed s a w hn ho hok hsz hl hc hr h;refine⟨fun h0=>?_,fun i hi=>?_⟩
  ·exfalso
   cases l with
   |nil=>simp at hn
   |cons i0 rest=>
    have hi0:=ho.lt i0 (by simp);have:i0∈Region.ready .any ops listed:=by
     refine mem_ready.2 ⟨(hl i0 hi0).2 (by simp),ops[i0],Array.getElem?_eq_getElem hi0,fun e he hb=>?_⟩
     rcases hx:listed.getD e.on false with _|_
     ·exfalso
      have hself:=ho.self i0 (by simp);have hnw:∀j,j∈rest->jd ops i0 j=true:=fun j hj=>(List.pairwise_cons.1 ho.nw).1 j hj
      have key:∀j,jd ops i0 j=true->e.on≠j:=fun j hj e'=>by
       unfold jd at hj;rw[Array.getElem?_eq_getElem hi0] at hj;have:=(Array.all_eq_true'.1 hj) e he;simp[hb,e'] at this
      rcases Nat.lt_or_ge e.on ops.size with hlt|hge
      ·have hun:listed.getD e.on true=false:=by
        have:e.on<listed.size:=(by rw[hsz];exact hlt);simp[this] at hx ⊢;exact hx
       have:=(hl e.on hlt).1 hun;rcases List.mem_cons.1 this with h1|h1
       ·exact key i0 hself h1
       ·exact key e.on (hnw _ h1) rfl
      ·have hj:=ho.ed i0 (by simp);unfold qH at hj;rw[Array.getElem?_eq_getElem hi0] at hj;have:=(Array.all_eq_true'.1 hj) e he;simp[hb] at this;omega
     ·rfl
    rw[h0] at this;cases this
  ·obtain⟨hun,oi,hoi,hall⟩:=mem_ready.1 hi;have hilt:=(Array.getElem?_eq_some_iff.1 hoi).1;have hil:i∈l:=(hl i hilt).1 hun;obtain⟨pre,post,rfl⟩:=List.append_of_mem hil;have hoid:ops.getD i default=oi:=by simp[hoi]
   have hpre:∀p∈pre,∃op,ops[p]? =some op∧Jc bl ops op oi=true:=by
    intro p hp;have hpo:DU bl ops p i=true:=(List.pairwise_append.1 hok).2.2 p hp i (by simp);unfold DU at hpo;rw[Bool.or_eq_true] at hpo;rcases hpo with hpo|hpo
    ·exfalso
     have h1:=qG hc hpo (fun o ho' e he hb=>by rw[hoi] at ho';cases ho';exact hall e he hb);have hplt:=ho.lt p (by simp[hp]);have h2:=(hl p hplt).2 (by simp[hp]);rw[N8 h2] at h1;cases h1
    ·rw[hoi] at hpo;cases hop:ops[p]? with
     |none=>rw[hop] at hpo;cases hpo
     |some op=>rw[hop] at hpo;exact⟨op,rfl,hpo⟩
   have hrun:aX P bl ops (oi::((pre++post).map fun i=>ops.getD i default)) s K:=by
    rw[List.map_append] at hr ⊢;rw[List.map_cons,hoid] at hr;refine aX.frontA hA hS hM hK ?_ hr;intro q hq;obtain⟨p,hp,rfl⟩:=List.mem_map.1 hq;obtain⟨op,hop,h1⟩:=hpre p hp;have:ops.getD p default=op:=by simp[hop]
    rw[this];exact h1
   have hsub:(pre++post).Sublist (pre++i::post):=List.Sublist.append (List.Sublist.refl _) (List.sublist_cons_self _ _);have hnd:=ho.nodup;have hinot:i∉pre++post:=by
    intro hm;have:=List.nodup_append.1 hnd;rcases List.mem_append.1 hm with h1|h1
    ·exact this.2.2 i h1 i (by simp) rfl
    ·exact(List.nodup_cons.1 this.2.1).1 h1
   unfold wpOp;rw[hoi];dsimp only;have hS':=iD.sound (K':=wpAny P .any ops Q n (listed.setIfInBounds i true)) (Q:=Q) hrun h (fun s' a' w' hk hrel=>by
 refine ih (pre++post) (listed.setIfInBounds i true) s' a' w' ?_ (ho.sub hsub) (hok.sublist hsub) (by simpa using hsz) ?_ ?_ hk hrel
 ·simp at hn ⊢;omega
 ·intro j hj
  by_cases hij:i=j
  ·subst hij;have:i<listed.size:=by rw[hsz];exact hilt
   simp[this]
   simpa using hinot
  ·rw[getD_set_ne true hij,hl j hj];simp[Ne.symm hij]
 ·intro j hj o hoj e he hb
  by_cases hij:i=j
  ·subst hij;rw[hoi] at hoj;cases hoj;exact getD_set_true (hall e he hb)
  ·rw[getD_set_ne false hij] at hj;exact getD_set_true (hc j hj o hoj e he hb))
   split
   ·rename_i hw;rw[if_pos hw] at hS';exact .inl hS'
   ·rename_i hw;rw[if_neg hw] at hS';exact hS'
def At.kcp{B:Bs}{X:Act->World->Prop}:KCP (fun s=>At B s X):=fun s s' he h a w hr=>h a w (he.rel hr)
def Fv{P:Program}{B:Bs}{Q:Exit->Act->World->Prop}{s:St}{id:Nat}{l l':List Oper}(bl perm:List Nat)(hm:P.follows .mixedOrders=true)(hc:yY bl l.toArray perm=true)(hl:perm.map (fun i=>l.toArray.getD i default)=l')
 (h:aX P bl l.toArray l' s (fun s'=>At B s' (Q .normal))):At B s ((Code.region id l.toArray true).wp P Q):=fun a w hr=>by
 simp only[yY,Bool.and_eq_true,decide_eq_true_eq,Bool.not_eq_true'] at hc;obtain⟨⟨⟨⟨⟨⟨⟨⟨⟨⟨hlen,hlt⟩,hall⟩,hpo⟩,hnw⟩,hself⟩,hed⟩,hnd⟩,hA⟩,hS⟩,hM⟩:=hc;have hOrd:TK l.toArray perm:=⟨fun i hi=>of_decide_eq_true (List.all_eq_true.1 hlt i hi),gG hnw,fun i hi=>List.all_eq_true.1 hself i hi,fun i hi=>List.all_eq_true.1 hed i hi,(gG hnd).imp (fun h=>by simpa using h)⟩
 subst hl;refine wp_region_any hm ?_;refine KY hA hS hM At.kcp (B:=B) (fun s' a' w' h1 h2=>h1 a' w' h2) l.toArray.size perm _ s a _ hlen hOrd (gG hpo) (by simp) ?_ ?_ h hr.drew
 ·intro j hj;have:j∈perm:=by
   have:=List.all_eq_true.1 hall j (List.mem_range.2 hj)
   simpa using this
  have hj':j<l.length:=(by simpa using hj);simp[hj',this]
 ·intro j hj
  exfalso
  rcases Nat.lt_or_ge j l.length with h1|h1
  ·simp[h1] at hj
  ·simp[h1] at hj
end Go.Via
namespace Go.Via
variable[Mo]
open Go Go.RowKit
def Jd{P:Program}{B:Bs}{fn:Func}{R:Ending->World->Prop}{s:St}(hfn:fn.results= #[])(hR:∀w,aT B s.L w->R (.returned (.tuple #[])) w)(hD:B.D=[]:=by first|rfl|assumption):At B s (bodyPost P fn R .normal):=fun a w hr=>
 ⟨hr.df.trans hD,.tuple #[],by simp[results,hfn],hR w hr.mem⟩
def yx(P:Program)(f:Nat)(L0:List aF)(args:List Value)(X:Type)(res:X->Value)(L1:X->List aF):Prop:=
 iF P f=true∧∀(B:Bs) (w:World),B.D=[]->aT B L0 w->Calls P f args.toArray w fun e w'=>∃x,e= .returned (res x)∧aT B (L1 x) w'
section
variable{P:Program}{bl:List Nat}{ops:Array Oper}{K:St->Prop}{rest:List Oper}{nt:Nat}{t:List (Nat×Value)}{L:List aF}{d:Nat}{ty:TypeId}{pos:String}{af:Array Edge}{g:Option (Nat×Bool)}{x y:Operand}
def TM{f:Nat}{v:Value}(hd:Nat.blt d nt=true)(hg:ax ops ⟨some d,.makeFunc (.func f) #[] #[x],ty,pos,af,g⟩ t=some true)(hx:ev t x=some v)(h:aX P bl ops rest ⟨nt,(d,.func (.func f) #[] #[v])::t,L⟩ K):
 aX P bl ops (⟨some d,.makeFunc (.func f) #[] #[x],ty,pos,af,g⟩::rest) ⟨nt,t,L⟩ K:=
 fM hd hg rfl (fun B a w hr=>by simp[execOp,Instr.makeFunc,hr.ev hx]) h
end
end Go.Via
namespace Go.Via
variable[Mo]
open Go Go.RowKit
def qgh(ms:List Nat)(l:List Edge):Nat:=l.foldl (fun m e=>if Region.binds .any e then m|||((1<<<e.on)|||ms.getD e.on 0) else m) 0
def TN(ops:Array Oper)(ms:List Nat):Bool:=(List.range ops.size).all fun i=>match ops[i]? with
 |some o=>(o.after.toList.all fun e=> !Region.binds .any e||decide (e.on<i))&&ms.getD i 0==qgh ms o.after.toList
 |none=>true
def LP{ms:List Nat}{j:Nat}:∀{l:List Edge} {m:Nat},Nat.testBit (l.foldl (fun m e=>if Region.binds .any e then m|||((1<<<e.on)|||ms.getD e.on 0) else m) m) j=true->
 Nat.testBit m j=true∨∃e∈l,Region.binds .any e=true∧(e.on=j∨Nat.testBit (ms.getD e.on 0) j=true)
 |[],m,h=> .inl h
 |e::l,m,h=>by
  rw[List.foldl_cons] at h;rcases LP h with h|⟨e',h1,h2⟩
  ·split at h
   ·rename_i hb
    rw[Nat.testBit_or,Nat.testBit_or,Bool.or_eq_true,Bool.or_eq_true] at h;rcases h with h|h|h
    ·exact .inl h
    ·refine .inr ⟨e,by simp,hb,.inl ?_⟩;rw[Nat.testBit_shiftLeft] at h;simp only[Bool.and_eq_true,decide_eq_true_eq] at h;have h3:=h.2
     by_cases c:j-e.on=0
     ·omega
     ·exfalso
      obtain⟨k,hk⟩:∃k,j-e.on=k+1:=⟨j-e.on-1,by omega⟩;rw[hk,Nat.testBit_succ] at h3;simp at h3
    ·exact .inr ⟨e,by simp,hb,.inr h⟩
   ·exact .inl h
  ·exact .inr ⟨e',by simp[h1],h2⟩
def Cf{ops:Array Oper}{ms:List Nat}(hm:TN ops ms=true):∀(f i j:Nat),i<f->i<ops.size->Nat.testBit (ms.getD i 0) j=true->waitsF ops f i j=true
 |0,i,j,h,_,_=>by omega
 |f+1,i,j,h,hi,hb=>by
  have h1:=List.all_eq_true.1 hm i (List.mem_range.2 hi);rw[Array.getElem?_eq_getElem hi] at h1;simp only[Bool.and_eq_true,beq_iff_eq] at h1;obtain⟨h2,h3⟩:=h1;rw[h3] at hb;unfold waitsF;rw[Array.getElem?_eq_getElem hi];rcases LP hb with hb|⟨e,he,hbe,hj⟩
  ·simp at hb
  ·have hlt:e.on<i:=by
    have:=List.all_eq_true.1 h2 e he;rw[hbe] at this
    simpa using this
   refine Array.any_eq_true'.2 ⟨e,by simpa using he,?_⟩;rw[hbe,Bool.true_and,Bool.or_eq_true];rcases hj with hj|hj
   ·exact .inl (by simpa using hj)
   ·exact .inr (Cf hm f e.on j (by omega) (by omega) hj)
def qfr(bl:List Nat)(ops:Array Oper)(ms:List Nat)(p i:Nat):Bool:=
 Nat.testBit (ms.getD i 0) p||
 match ops[p]?,ops[i]? with
 |some op,some oi=>iq op&&uF bl oi&& !jy op&&op.apart ops oi
 |_,_=>false
def ZF(bl:List Nat)(ops:Array Oper)(ms:List Nat)(p i:Nat):Bool:=
 Nat.testBit (ms.getD i 0) p||
 match ops[p]?,ops[i]? with
 |some op,some oi=>Jc bl ops op oi
 |_,_=>false
def yZ{f g:Nat->Nat->Bool}:∀{l:List Nat},(∀p∈l,∀i∈l,f p i=true->g p i=true)->iE f l=true->iE g l=true
 |[],_,_=>rfl
 |p::l,h,hf=>by
  simp only[iE,Bool.and_eq_true] at hf ⊢;exact⟨List.all_eq_true.2 fun i hi=>h p (by simp) i (by simp[hi]) (List.all_eq_true.1 hf.1 i hi),yZ (fun p hp i hi=>h p (by simp[hp]) i (by simp[hi])) hf.2⟩
def P9(bl:List Nat)(ops:Array Oper)(perm:List Nat)(ms:List Nat):Bool:=
 TN ops ms&&(decide (perm.length=ops.size)&&perm.all (fun i=>decide (i<ops.size))&&(List.range ops.size).all (fun i=>perm.contains i)&&
 iE (qfr bl ops ms) perm&&iE (jd ops) perm&&perm.all (fun i=>jd ops i i)&&perm.all (fun i=>qH ops i)&&iE (IX bl ops) perm&&iE (IY bl ops) perm&&iE (fun i j=>i !=j) perm)
def lW{bl:List Nat}{ops:Array Oper}{perm:List Nat}(ms:List Nat)(h:P9 bl ops perm ms=true):uH bl ops perm=true:=by
 unfold P9 at h;rw[Bool.and_eq_true] at h;obtain⟨hm,h⟩:=h;unfold uH;simp only[Bool.and_eq_true] at h ⊢;obtain⟨⟨⟨⟨⟨⟨⟨⟨⟨h1,h2⟩,h3⟩,h4⟩,h5⟩,h6⟩,h7⟩,h8⟩,h9⟩,h10⟩:=h;refine⟨⟨⟨⟨⟨⟨⟨⟨⟨h1,h2⟩,h3⟩,yZ (fun p hp i hi hpi=>?_) h4⟩,h5⟩,h6⟩,h7⟩,h8⟩,h9⟩,h10⟩;have hil:i<ops.size:=of_decide_eq_true (List.all_eq_true.1 h2 i hi);unfold qfr at hpi;unfold rH;rw[Bool.or_eq_true] at hpi ⊢;exact hpi.imp (Cf hm _ i p hil hil) id
def LQ(bl:List Nat)(ops:Array Oper)(perm:List Nat)(ms:List Nat):Bool:=
 TN ops ms&&(decide (perm.length=ops.size)&&perm.all (fun i=>decide (i<ops.size))&&(List.range ops.size).all (fun i=>perm.contains i)&&
 iE (ZF bl ops ms) perm&&iE (jd ops) perm&&perm.all (fun i=>jd ops i i)&&perm.all (fun i=>qH ops i)&&iE (fun i j=>i !=j) perm&&Ik bl&& !Fa bl&& !Il bl)
def Vu{bl:List Nat}{ops:Array Oper}{perm:List Nat}(ms:List Nat)(h:LQ bl ops perm ms=true):yY bl ops perm=true:=by
 unfold LQ at h;rw[Bool.and_eq_true] at h;obtain⟨hm,h⟩:=h;unfold yY;simp only[Bool.and_eq_true] at h ⊢;obtain⟨⟨⟨⟨⟨⟨⟨⟨⟨⟨h1,h2⟩,h3⟩,h4⟩,h5⟩,h6⟩,h7⟩,h8⟩,h9⟩,h10⟩,h11⟩:=h;refine⟨⟨⟨⟨⟨⟨⟨⟨⟨⟨h1,h2⟩,h3⟩,yZ (fun p hp i hi hpi=>?_) h4⟩,h5⟩,h6⟩,h7⟩,h8⟩,h9⟩,h10⟩,h11⟩;have hil:i<ops.size:=of_decide_eq_true (List.all_eq_true.1 h2 i hi);unfold ZF at hpi;unfold DU;rw[Bool.or_eq_true] at hpi ⊢;exact hpi.imp (Cf hm _ i p hil hil) id
end Go.Via
namespace Go.Via
variable[Mo]
open Go Go.RowKit
section
variable{P:Program}{bl:List Nat}{ops:Array Oper}{K:St->Prop}{rest:List Oper}{nt:Nat}{t:List (Nat×Value)}{L:List aF}{d:Nat}{ty:TypeId}{pos:String}{af:Array Edge}{g:Option (Nat×Bool)}{x y:Operand}
def qcQ{T i:Nat}{v u:Value}(hd:Nat.blt d nt=true)(hg:ax ops ⟨some d,.field T x i,ty,pos,af,g⟩ t=some true)(hx:ev t x=some v)(hf:∀w,(Instr.field T v i).run P w= .ok u w)
 (h:aX P bl ops rest ⟨nt,(d,u)::t,L⟩ K):aX P bl ops (⟨some d,.field T x i,ty,pos,af,g⟩::rest) ⟨nt,t,L⟩ K:=
 fM hd hg rfl (fun B a w hrel=>by simp[execOp,hrel.ev hx,hf w]) h
end
end Go.Via
namespace Go.Via
variable[Mo]
open Go Go.RowKit
section
variable{P:Program}{bl:List Nat}{ops:Array Oper}{K:St->Prop}{rest:List Oper}{nt:Nat}{t:List (Nat×Value)}{L:List aF}{d:Nat}{ty:TypeId}{pos:String}{af:Array Edge}{g:Option (Nat×Bool)}{x y z:Operand}
def TP{T e off2:Nat}{inf:TypeInfo}{bb:Option Nat}{len cap c2:Nat}{b2:Option Nat}(hT:P.underlying T=some (.slice e))(hi:P.info? e=some inf)(hd:Nat.blt d nt=true)
 (hg:ax ops ⟨some d,.call {callee:= .builtin .append,args:= #[x,y],argTypes:= #[T,T]},ty,pos,af,g⟩ t=some true)
 (hx:ev t x=some (aI bb 0 len cap))(hcap:len<=cap)(hy:ev t y=some (aI b2 off2 0 c2))(h:aX P bl ops rest ⟨nt,(d,aI bb 0 len cap)::t,L⟩ K):
 aX P bl ops (⟨some d,.call {callee:= .builtin .append,args:= #[x,y],argTypes:= #[T,T]},ty,pos,af,g⟩::rest) ⟨nt,t,L⟩ K:=
 fM hd hg rfl (fun B a w hr=>by
 have hx':=hr.ev hx;have hy':=hr.ev hy;have hs:Src P inf.size T (aI b2 off2 0 c2) 0 [] w:=by
  cases b2 with
  |none=>exact Src.ofNil (P:=P) w hT c2
  |some g2=>exact Src.ofSlice (P:=P) w hT ⟨g2,off2,none⟩ 0 c2 [] (by simp) (fun j u hj=>by simp at hj) (fun u hu=>by cases hu)
 have r1:=run_append_nothing (P:=P) w T T ty e inf hT hi (bb.map fun g=>⟨g,0,none⟩) len cap hcap (aI b2 off2 0 c2) hs;have r2:(execOp a.eval ⟨some d,.call {callee:= .builtin .append,args:= #[x,y],argTypes:= #[T,T]},ty,pos,af,g⟩).run P w=((Builtin.append_ #[T,T] ty #[aI bb 0 len cap,aI b2 off2 0 c2]).run P w).andThen fun v w=> .ok (.value v) w:=by
  simp[execOp,resolve,invoke,builtin,hx',hy']
 rw[r2];unfold aI at r1 ⊢;rw[r1];rfl) h
end
end Go.Via
namespace Go.Via
variable[Mo]
open Go Go.RowKit
def Oper.wp_monoQ{P:Program}{o:Oper}{a:Act}{w:World}{K K':Act->World->Prop}{Q Q':Exit->Act->World->Prop}(h:∀a w,K a w->K' a w)
 (hp:∀c a w,Q (.panic c) a w->Q' (.panic c) a w)(hl:LetsOut Q->LetsOut Q')(hh:o.wp P a w K Q):o.wp P a w K' Q':=by
 unfold Oper.wp at*
 generalize(execOp a.eval o).run P w=r at*
 cases r with
 |ok n w'=>
  cases n<;>simp only[Oper.upon] at hh ⊢ <;>
   first
    |exact h _ _ hh
    |exact Calls.mono hh (fun e w'' he=>by cases e<;>first|exact h _ _ he|exact hp _ _ _ he|exact hl he)
    |exact Rows.mono hh (fun _ _ he=>h _ _ he)
 |halt x w'=>cases x<;>simp only[Oper.upon] at hh ⊢ <;>first|exact hp _ _ _ hh|exact hh
def qY{P:Program}{md:Region.Mode}{ops:Array Oper}{Q Q':Exit->Act->World->Prop}(hn:∀a w,Q .normal a w->Q' .normal a w)
 (hp:∀c a w,Q (.panic c) a w->Q' (.panic c) a w)(hl:LetsOut Q->LetsOut Q'):∀(n:Nat) (listed:Array Bool) (a:Act) (w:World),wpAny P md ops Q n listed a w->wpAny P md ops Q' n listed a w
 |0,_,_,_,h=>⟨h.1,hn _ _ h.2⟩
 |n+1,listed,a,w,h=>⟨fun h0=>hn _ _ (h.1 h0),fun i hi=>by
 have h1:=h.2 i hi;unfold wpOp at h1 ⊢
 split
 ·rename_i ho;rw[ho] at h1;exact qY hn hp hl n _ _ _ h1
 ·rename_i o ho
  rw[ho] at h1;dsimp only at h1
  split
  ·rename_i hw
   rw[if_pos hw] at h1;exact h1.imp (Oper.wp_monoQ (qY hn hp hl n _) hp hl) (fun h2=>⟨h2.1,hl h2.2⟩)
  ·rename_i hw
   rw[if_neg hw] at h1;exact qY hn hp hl n _ _ _ h1⟩
def Ap(ops:Array Oper):Array Bool->List Nat->Bool
 |_,[]=>true
 |listed,i::E=>(match ops[i]? with
 |some o=>iq o&& !jy o
 |none=>false)&&Region.free .any ops listed i&&(Region.ready .any ops listed).contains i&&Ap ops (listed.setIfInBounds i true) E
def uJ(X:Act->World->Prop):Exit->Act->World->Prop
 | .normal,a,w=>X a w
 |_,_,_=>False
def y5{P:Program}{ops:Array Oper}{X:Act->World->Prop}{B:Bs}{w:World}{nt:Nat}{L:List aF}{n:Nat}(hsel:Region.noSelect ops=true){G:List (Nat×Value)->Array Bool->Prop}
 (hG:∀(t:List (Nat×Value)) (listed:Array Bool) (a:Act),G t listed->kD B ⟨nt,t,L⟩ a w->wpAny P .any ops (uJ X) n listed a w):
 ∀(E:List Nat) (listed:Array Bool) (t:List (Nat×Value)) (a:Act),Ap ops listed E=true->
  aX P [] ops (E.map fun i=>ops.getD i default) ⟨nt,t,[]⟩ (fun s'=>G s'.t (E.foldl (fun(x:Array Bool) i=>x.setIfInBounds i true) listed))->kD B ⟨nt,t,L⟩ a w->wpAny P .any ops (uJ X) (E.length+n) listed a w
 |[],listed,t,a,_,hr,h=>by rw[show([]:List Nat).length+n=n by simp];exact hG t listed a hr h
 |i::E,listed,t,a,hc,hr,h=>by
  simp only[Ap,Bool.and_eq_true,Bool.not_eq_true'] at hc;obtain⟨⟨⟨hk,hf⟩,hrd⟩,hE⟩:=hc;cases ho:ops[i]? with
  |none=>rw[ho] at hk;cases hk
  |some o=>
   rw[ho] at hk;simp only[Bool.and_eq_true,Bool.not_eq_true'] at hk;obtain⟨hmv,hcl⟩:=hk;have hoid:ops.getD i default=o:=by simp[ho]
   have hr1:iD P [] ops (ops.getD i default) ⟨nt,t,[]⟩ (fun s'=>aX P [] ops (E.map fun i=>ops.getD i default) s' (fun s'=>G s'.t (E.foldl (fun(x:Array Bool) i=>x.setIfInBounds i true) (listed.setIfInBounds i true)))):=hr;rw[hoid] at hr1;obtain⟨h0,g,hg,hh⟩:=hr1;have hw:=Dz h hg;have hrel0:∀w':World,kD ⟨w',fun _=>False,B.D⟩ ⟨nt,t,[]⟩ a w':=fun w'=>⟨h.df,h.size,h.tmp,⟨⟨rfl,rfl,rfl,Nat.le_refl _,fun _ _ _=>rfl,fun _=>Nat.le_refl _⟩,fun k b hk=>by simp at hk,(fun i j g bi bj hij hi=>by simp at hi),lS.nil _ _⟩⟩
   have hnsto:isSto o=false:=by
    unfold isSto;unfold iq at hmv
    split<;>first|rfl|(rename_i heq;rw[heq] at hmv;cases hmv)
   have hnal:isAl o=false:=by
    unfold isAl;unfold iq at hmv
    split
    ·rename_i heq;rw[heq] at hmv;cases hmv
    ·rename_i heq;rw[heq] at hmv;cases hmv
    ·rfl
   obtain⟨v,hy,hk⟩:∃v,Go.Yields P ops o v a∧aX P [] ops (E.map fun i=>ops.getD i default) ((⟨nt,t,[]⟩:St).put o.dst v) (fun s'=>G s'.t (E.foldl (fun(x:Array Bool) i=>x.setIfInBounds i true) (listed.setIfInBounds i true))):=by
    rcases hh with⟨h1,h2⟩|⟨h1,⟨h2,v,h3,h4⟩|⟨h2,_⟩|⟨hm,_⟩|⟨hm,_⟩|⟨hm,_⟩|⟨_,hm,_⟩⟩
    ·exact⟨undef,.inr ⟨by rw[hw,h1],rfl⟩,h2⟩
    ·exact⟨v,.inl ⟨by rw[hw,h1],fun w'=>h3.1 _ a w' (hrel0 w')⟩,h4⟩
    ·rw[hcl] at h2;cases h2
    ·simp[Il,NZ,hmv] at hm
    ·rw[hnsto] at hm;cases hm
    ·rw[hnal] at hm;cases hm
    ·cases hm
   rw[show(i::E).length+n=(E.length+n)+1 by simp;omega];refine wpAny_take ho hsel hf hrd (fun c a w hq=>hq.elim) hy ?_;have hput:(⟨nt,t,[]⟩:St).put o.dst v=⟨nt,((⟨nt,t,[]⟩:St).put o.dst v).t,[]⟩:=by cases o.dst<;>rfl
   rw[hput] at hk;refine y5 hsel hG E _ _ _ hE hk ?_;have h5:=h.put0 (dst:=o.dst) (v:=v) h0;have h6:(⟨nt,t,L⟩:St).put o.dst v=⟨nt,((⟨nt,t,[]⟩:St).put o.dst v).t,L⟩:=by cases o.dst<;>rfl
   rw[<-h6];exact h5
def qgi{P:Program}{ops:Array Oper}{K:St->Prop}{listed:Array Bool}{s:St}(h:Region.ready .any ops listed=[])(hk:K s):yX P ops K 0 listed s:=⟨h,hk⟩
end Go.Via
namespace Go.Via
variable[Mo]
open Go Go.RowKit
section
variable{P:Program}{bl:List Nat}{ops:Array Oper}{K:St->Prop}{rest:List Oper}{nt:Nat}{t:List (Nat×Value)}{L:List aF}{d:Nat}{ty:TypeId}{pos:String}{af:Array Edge}{g:Option (Nat×Bool)}{x y:Operand}
def qgj{T e:Nat}{b:Option Addr}{len cap:Nat}(hT:P.underlying T=some (.slice e))(hd:Nat.blt d nt=true)(hg:ax ops ⟨some d,.call {callee:= .builtin .len,args:= #[x],argTypes:= #[T]},ty,pos,af,g⟩ t=some true)(hx:ev t x=some (.slice b len cap))(h:aX P bl ops rest ⟨nt,(d,.int .i64 len)::t,L⟩ K):
 aX P bl ops (⟨some d,.call {callee:= .builtin .len,args:= #[x],argTypes:= #[T]},ty,pos,af,g⟩::rest) ⟨nt,t,L⟩ K:=
 fM hd hg rfl (fun B a w hrel=>by
 have he:P.elem T=e:=(by simp[Program.elem,hT]);have:=run_len_slice (P:=P) w T ty b len cap (by rw[he];exact hT);have h2:=hrel.ev hx;simp[execOp,resolve,invoke,builtin,h2,this,goInt]) h
end
end Go.Via
namespace Go.Via
variable[Mo]
open Go Go.RowKit Go.MapKept
abbrev IM:=List (Int×Value)
def kvI(l:IM):List (Value×Value):=l.map fun p=>(.int .i64 p.1,p.2)
def kvE(e:MapEntry):Value×Value:=(e.key,e.val)
noncomputable def mI(l:IM):Nat:=mE (kvI l)
def Vw(l:IM):Bool:=l.all fun p=>Value.simple p.2
def TQ{l:IM}(h:Vw l=true):rW (kvI l)=true:=by
 unfold rW kvI;rw[List.all_map];refine List.all_eq_true.2 fun p hp=>?_
 have:=List.all_eq_true.1 h p hp;simp[Value.simple,Value.simple0] at this ⊢;exact this
theorem aT.map{B:Bs}{w:World}{L:List aF}(h:aT B L w){k:Nat}{g:Nat}{l:IM}{own:Bool}(hs:Vw l=true)(hk:L[k]? =some ⟨some g,mI l,[],0,own⟩):
 ∃es clock,w.heap[g]? =some (.map es clock)∧es.toList.map kvE=kvI l∧Stamped es clock:=by
 rcases((h.blk k _ hk).1 g rfl).1 with⟨cur,⟨_,_,_,_,hlt⟩,_⟩|⟨l',es,clock,a1,_,_,a4,a5,a6,a7⟩
 ·exact absurd hlt (qig _)
 ·have e:kvI l=l':=by
   rcases a1 with a1|⟨_,_,a1,_⟩
   ·exact qfZ (TQ hs) a4 a1
   ·exact absurd a1 qf0
  subst e;exact⟨es,clock,a5,a6,a7⟩
section
variable{P:Program}{bl:List Nat}{ops:Array Oper}{K:St->Prop}{rest:List Oper}{nt:Nat}{t:List (Nat×Value)}{L:List aF}{d:Nat}{ty:TypeId}{pos:String}{af:Array Edge}{gd:Option (Nat×Bool)}{x y z:Operand}
end
end Go.Via
namespace Go.Via
variable[Mo]
open Go Go.RowKit
section
variable{P:Program}{bl:List Nat}{ops:Array Oper}{K:St->Prop}{rest:List Oper}{nt:Nat}{t:List (Nat×Value)}{L:List aF}{d:Nat}{ty:TypeId}{pos:String}{af:Array Edge}{g:Option (Nat×Bool)}{x y:Operand}
def Je{f:Nat}{args:List Operand}{ts:Array TypeId}{caps vs:List Value}{B:Bs}{w:World}{s:St}{a:Act}{dst:Option Nat}(hp:iF P f=true)(hr:kD B s a w)(hf:ev s.t x=some (.func (.func f) #[] caps.toArray))(hv:args.map (ev s.t)=vs.map some):
 (execOp a.eval ⟨dst,.call {callee:= .value x,args:=args.toArray,argTypes:=ts},ty,pos,af,g⟩).run P w= .ok (.enter f (vs++caps).toArray) w:=by
 have hfv:=hr.ev hf;have hva:args.toArray.map a.eval=vs.toArray:=(by simp[nJ hr hv]);unfold iF at hp;cases hq:P.funcs[f]? with
 |none=>rw[hq] at hp;cases hp
 |some fn=>
  rw[hq] at hp;simp only[Bool.and_eq_true,Bool.not_eq_true'] at hp;obtain⟨h1,h2⟩:=hp;have h3:fn.body≠none:=by intro hb;rw[hb] at h1;cases h1
  have h4:¬fn.name= "runtime.NumGoroutine" :=(by simpa using h2);simp[execOp,resolve,hfv,hva,Deferred.ofValue,invoke,callFunc,hq,h4,h3]
def qcR{f:Nat}{args:List Operand}{ts:Array TypeId}{caps:List Value}(vs:List Value){L0:List aF}{X:Type}[hX:Nonempty X]{res:X->Value}{new:X->List aF}(ks:List Nat)(hd:Nat.blt d nt=true)(hg:ax ops ⟨some d,.call {callee:= .value x,args:=args.toArray,argTypes:=ts},ty,pos,af,g⟩ t=some true)
 (hf:ev t x=some (.func (.func f) #[] caps.toArray))(hv:args.map (ev t)=vs.map some)(hc:bZ P f L0 (vs++caps) X res new)(hp:iJ L (ks.map some) L0)(ho:(L0.all fun b=> !b.own)=true)(hn:∀x,∀b∈new x,b.own=true)
 (h:∀x,aX P bl ops rest ⟨nt,(d,res x)::t,L++new x⟩ K):
 aX P bl ops (⟨some d,.call {callee:= .value x,args:=args.toArray,argTypes:=ts},ty,pos,af,g⟩::rest) ⟨nt,t,L⟩ K:=
 DK hd hg rfl (X:=X) (res:=res) (new:=new) (fun B a w hr=>⟨f,(vs++caps).toArray,Je hc.1 hr hf hv,(hc.2 w (hr.mem.asArgs ks hp (fun b hb=>by simpa using List.all_eq_true.1 ho b hb))).mono (by
 rintro e w' ⟨x,rfl,hx⟩;exact⟨x,rfl,hr.mem.joinF hx (hn x)⟩)⟩) (fun _=>⟨fun B a w hr=>⟨f,(vs++caps).toArray,Je hc.1 hr hf hv,(hc.2 w (hr.mem.asArgs ks hp (fun b hb=>by simpa using List.all_eq_true.1 ho b hb))).mono (by
 rintro e w' ⟨x,rfl,hx⟩;exact⟨x,rfl,hx,hn x⟩)⟩,hX⟩) fun x=>h x
def ZG{f:Nat}{args:List Operand}{ts:Array TypeId}{caps:List Value}(vs:List Value){L0:List aF}{v:Value}(ks:List Nat)(hd:Nat.blt d nt=true)(hg:ax ops ⟨some d,.call {callee:= .value x,args:=args.toArray,argTypes:=ts},ty,pos,af,g⟩ t=some true)
 (hf:ev t x=some (.func (.func f) #[] caps.toArray))(hv:args.map (ev t)=vs.map some)(hc:bZ P f L0 (vs++caps) Unit (fun _=>v) (fun _=>[]))(hp:iJ L (ks.map some) L0)(ho:(L0.all fun b=> !b.own)=true)
 (h:aX P bl ops rest ⟨nt,(d,v)::t,L⟩ K):
 aX P bl ops (⟨some d,.call {callee:= .value x,args:=args.toArray,argTypes:=ts},ty,pos,af,g⟩::rest) ⟨nt,t,L⟩ K:=
 qcR vs ks hd hg hf hv hc hp ho (fun x b hb=>by cases hb) fun x=>by
  have:L++([]:List aF)=L:=List.append_nil L;show aX P bl ops rest ⟨nt,(d,v)::t,L++[]⟩ K;rw[this];exact h
end
end Go.Via
namespace Go.Via
variable[Mo]
open Go Go.RowKit
structure OR(need s:Nat) where
 b:Option Nat
 n:Nat
 cap:Nat
 h:need<=cap
 hn:cap*s<=n
section
variable{P:Program}{bl:List Nat}{ops:Array Oper}{K:St->Prop}{rest:List Oper}{nt:Nat}{t:List (Nat×Value)}{L:List aF}{d:Nat}{ty:TypeId}{pos:String}{af:Array Edge}{g:Option (Nat×Bool)}{x y:Operand}
def TR{T e:Nat}{inf:TypeInfo}{z:Value}{b:aF}{len cap b2o off2 n2 c2:Nat}{b2:aF}(hem:e<bW)(k k2:Nat)(news:List Value)(mk:AR (len+n2) inf.size->List aF)(hT:P.underlying T=some (.slice e))(hi:P.info? e=some inf)(hz:inf.zero=some z)(hs:0<inf.size)(hzs:z.cells.size=inf.size)(hbytes:inf.bytes<=1024)(hd:Nat.blt d nt=true)
 (hg:ax ops ⟨some d,.call {callee:= .builtin .append,args:= #[x,y],argTypes:= #[T,T]},ty,pos,af,g⟩ t=some true)
 (hk:L[k]? =some b)(ho:b.own=true)(he:b.e=e)(hlen:b.cs.length=len*inf.size)(hcap:len<=cap)(hn:cap*inf.size<=b.n)(hx:ev t x=some (aI b.base 0 len cap))
 (hk2:L[k2]? =some b2)(hnew:(b2.cs.drop off2).take (n2*inf.size)=news)(hlen2:news.length=n2*inf.size)(hpos:0<n2)(hb2:b2.base=some b2o)(hy:ev t y=some (aI (some b2o) off2 n2 c2))(h1:∀v∈news,v.oneCell'=true)(hmax:len+n2<=17179869184)
 (hL:∀r,L.set k ⟨some r.g,e,b.cs++news,r.n,true⟩=mk r)
 (h:∀r:AR (len+n2) inf.size,aX P bl ops rest ⟨nt,(d,aI (some r.g) 0 (len+n2) r.cap)::t,mk r⟩ K):
 aX P bl ops (⟨some d,.call {callee:= .builtin .append,args:= #[x,y],argTypes:= #[T,T]},ty,pos,af,g⟩::rest) ⟨nt,t,L⟩ K:=
 LH hd hg rfl rfl (X:=AR (len+n2) inf.size) (nx:=fun r=>⟨nt,(d,aI (some r.g) 0 (len+n2) r.cap)::t,mk r⟩) (fun hd'=>I4 fun B a w hr=>by
 have hx':=hr.ev hx;have hy':=hr.ev hy
 have hnews:∀j u,news[j]? =some u->w.cell? ((⟨b2o,off2,none⟩:Addr).add j)=some u:=fun j u hj=>by
  have hj2:b2.cs[off2+j]? =some u:=by
   rw[<-hnew] at hj;rw[List.getElem?_take] at hj
   split at hj
   ·rwa [List.getElem?_drop] at hj
   ·cases hj
  obtain⟨g',hg',h2⟩:=hr.mem.cell hk2 hj2;rw[hb2] at hg';cases hg';rw[kJ];exact h2
 have hsrc:=Src.ofSlice (P:=P) w (size:=inf.size) hT ⟨b2o,off2,none⟩ n2 c2 news hlen2 hnews h1;have fin:∀v w',(Builtin.append_ #[T,T] ty #[aI b.base 0 len cap,aI (some b2o) off2 n2 c2]).run P w= .ok v w'->(execOp a.eval ⟨some d,.call {callee:= .builtin .append,args:= #[x,y],argTypes:= #[T,T]},ty,pos,af,g⟩).run P w= .ok (.value v) w':=fun v w' hv=>by
  simp[execOp,resolve,invoke,builtin,hx',hy',hv]
 by_cases hroom:len+n2<=cap
 ·
  obtain⟨gg,hgg⟩:∃gg,b.base=some gg:=by
   cases hbb:b.base with
   |some gg=>exact⟨gg,rfl⟩
   |none=>
    have:=((hr.mem.blk k b hk).2 hbb).2;have h3:1*1<=cap*inf.size:=Nat.mul_le_mul (by omega) hs;omega
  obtain⟨cur,⟨e',fr,c1,cfr,_⟩,c2',c3⟩:=((hr.mem.blk k b hk).1 gg hgg).cells (.inl (by
 have h3:1*1<=cap*inf.size:=Nat.mul_le_mul (by omega) hs;omega))
  obtain⟨rfl,rfl⟩:=cfr ho;have hroomc:(len+n2)*inf.size<=cap*inf.size:=Nat.mul_le_mul_right _ hroom;have hsum:(len+n2)*inf.size=len*inf.size+n2*inf.size:=Nat.add_mul ..;have hfit:0+len*inf.size+news.length<=cur.size:=by rw[hlen2];omega
  have r1:=run_append_room_src (P:=P) w T T ty e inf hT hi gg 0 len cap (aI (some b2o) off2 n2 c2) n2 news hsrc hroom
   (fun j hj=>by
 rw[cell_of_row w gg _ cur b.e (0,0) c1];rw[Array.getElem?_eq_getElem (by omega)];rfl)
   (fun j hj=>by simp[World.frozen?,c1])
  rw[xI news w gg _ cur b.e c1 hfit] at r1;refine⟨_,_,(⟨gg,b.n,cap,hroom,hn⟩:AR (len+n2) inf.size),fin _ _ (by unfold aI at r1 ⊢;rw[hgg];exact r1),?_⟩;refine hr.put hd' ?_;rw[<-hL];have hcur:cur.toList.take (0+len*inf.size)=b.cs:=by rw[Nat.zero_add,<-hlen];exact c3
  have h5:=hr.mem.set hk ho hgg (cur.toList.take (0+len*inf.size)++news++cur.toList.drop (0+len*inf.size+news.length)).toArray (b.cs++news)
   (by simp only[List.size_toArray,List.length_append,List.length_take,List.length_drop,Array.length_toList];omega)
   (by
 rw[hcur];simp only[List.append_assoc];rw[List.length_append,<-List.append_assoc,<-List.length_append];exact List.take_left)
  rw[hgg] at h5;rw[ho] at h5;rw[he] at h5;exact h5
 ·
  have hold:(Builtin.firstCells inf.size len (aI b.base 0 len cap)).run P w.drew= .ok b.cs.toArray w.drew:=by
   cases hbb:b.base with
   |none=>
    have:=((hr.mem.blk k b hk).2 hbb).1;rw[this];exact run_firstCells_none w.drew inf.size len len cap
   |some gg=>
    refine run_firstCells_some (P:=P) w.drew inf.size len ⟨gg,0,none⟩ len cap b.cs hlen (fun j v hj=>?_);obtain⟨g',hg',h2⟩:=hr.mem.cell hk hj;rw[hbb] at hg';cases hg';rw[kJ,Nat.zero_add];exact h2
  have hge:=grownCap_ge w (len+n2) cap e;have hbb:(len+n2)*inf.bytes<=17179869184*1024:=Nat.mul_le_mul hmax hbytes;have hfit:Builtin.nextslicecap (len+n2) cap*inf.bytes<=281474976710656:=growslice_fits (by omega) (by omega);have r1:=run_append_grow_src (P:=P) w T T ty e inf z hT hi hz (b.base.map fun g=>⟨g,0,none⟩) len cap b.cs hold (aI (some b2o) off2 n2 c2) n2 news hsrc (by omega) (by omega) hfit;refine⟨_,_,(⟨w.heap.size,(((b.cs++news).toArray++Builtin.zeroCells z.cells (grownCap w (len+n2) cap e-(len+n2))):Array Value).size,grownCap w (len+n2) cap e,hge,?_⟩:AR (len+n2) inf.size),fin _ _ r1,?_⟩
  ·have hz':(Builtin.zeroCells z.cells (grownCap w (len+n2) cap e-(len+n2))).size=(grownCap w (len+n2) cap e-(len+n2))*inf.size:=by
    unfold Builtin.zeroCells;simp[hzs]
   have hm:(grownCap w (len+n2) cap e-(len+n2))*inf.size+(len+n2)*inf.size=grownCap w (len+n2) cap e*inf.size:=by
    rw[<-Nat.add_mul,Nat.sub_add_cancel hge]
   have hsum:(len+n2)*inf.size=len*inf.size+n2*inf.size:=Nat.add_mul ..;rw[Array.size_append,hz'];simp only[List.size_toArray,List.length_append];omega
  ·refine hr.put hd' ?_;rw[<-hL];have h5:=(hr.mem.drew.alloc e ((b.cs++news).toArray++Builtin.zeroCells z.cells (grownCap w (len+n2) cap e-(len+n2))) hem);refine(h5.last (b':=⟨some w.heap.size,e,b.cs++news,((b.cs++news).toArray++Builtin.zeroCells z.cells (grownCap w (len+n2) cap e-(len+n2)):Array Value).size,true⟩) ⟨rfl,rfl,rfl,⟨(b.cs++news).length,?_⟩,fun _=>rfl⟩).swapIn k
   rw[Array.toList_append];exact(List.take_left (l₁:=b.cs++news)).symm) fun r=>h r
def Fz{T e s:Nat}{zz:Value}{b:aF}{len cap off2 n2 c2:Nat}{b2:aF}(k k2:Nat)(news:List Value)(mk:OR (len+n2) s->List aF)(hT:P.underlying T=some (.slice e))(hi:LK P e s zz)(hd:Nat.blt d nt=true)
 (hg:ax ops ⟨some d,.call {callee:= .builtin .append,args:= #[x,y],argTypes:= #[T,T]},ty,pos,af,g⟩ t=some true)
 (hk:L[k]? =some b)(ho:b.own=true)(he:b.e=e)(hx:ev t x=some (aI b.base 0 len cap))(hk2:L[k2]? =some b2)(hy:ev t y=some (aI b2.base off2 n2 c2))(hs:Nat.blt 0 s=true)(hzs:zz.cells.size=s)
 (hlen:b.cs.length=len*s)(hcap:len<=cap)(hn:cap*s<=b.n)(hb2:n2=0∨∃g,b2.base=some g)(hnew:(b2.cs.drop off2).take (n2*s)=news)(hlen2:news.length=n2*s)(h1:∀v∈news,v.oneCell'=true)(hmax:len+n2<=17179869184)
 (hL:∀r,L.set k ⟨r.b,e,b.cs++news,r.n,true⟩=mk r)
 (h:∀r:OR (len+n2) s,aX P bl ops rest ⟨nt,(d,aI r.b 0 (len+n2) r.cap)::t,mk r⟩ K):
 aX P bl ops (⟨some d,.call {callee:= .builtin .append,args:= #[x,y],argTypes:= #[T,T]},ty,pos,af,g⟩::rest) ⟨nt,t,L⟩ K:=by
 obtain⟨inf,i1,i2,i3,i5⟩:=yV hi;subst i3;rcases Nat.eq_zero_or_pos n2 with h0|h0
 ·subst h0;refine TP hT i1 hd hg hx hcap hy ?_;have hnw:news=[]:=List.eq_nil_of_length_eq_zero (by rw[hlen2];omega);have:=h ⟨b.base,b.n,cap,hcap,hn⟩;rw[<-hL,hnw,List.append_nil] at this;have hb:(⟨b.base,e,b.cs,b.n,true⟩:aF)=b:=by rw[<-he,<-ho]
  rw[show(⟨b.base,b.n,cap,hcap,hn⟩:OR (len+0) inf.size).b=b.base from rfl,show(⟨b.base,b.n,cap,hcap,hn⟩:OR (len+0) inf.size).n=b.n from rfl,hb] at this;have hset:L.set k b=L:=by
   obtain⟨q1,q2⟩:=List.getElem?_eq_some_iff.1 hk;rw[<-q2];exact List.set_getElem_self q1
  rw[hset] at this;exact this
 ·obtain⟨b2o,hb2⟩:=hb2.resolve_left (by omega);rw[hb2] at hy;exact TR hi.2 k k2 news (fun r=>mk ⟨some r.g,r.n,r.cap,r.h,r.hn⟩) hT i1 i2 (by simpa using hs) hzs (by omega) hd hg hk ho he hlen hcap hn hx hk2 hnew hlen2 h0 hb2 hy h1 hmax (fun r=>hL ⟨some r.g,r.n,r.cap,r.h,r.hn⟩) (fun r=>h ⟨some r.g,r.n,r.cap,r.h,r.hn⟩)
end
end Go.Via
namespace Go.Via
variable[Mo]
open Go Go.RowKit
section
variable{P:Program}{bl:List Nat}{ops:Array Oper}{K:St->Prop}{rest:List Oper}{nt:Nat}{t:List (Nat×Value)}{L:List aF}{d:Nat}{ty:TypeId}{pos:String}{af:Array Edge}{g:Option (Nat×Bool)}{x y:Operand}
def Oh{T:Nat}{j:Nat}{i:TI}{gg:Nat}(off fo:Nat){fs:Nat}(hd:Nat.blt d nt=true)(hg:ax ops ⟨some d,.fieldAddr T x j,ty,pos,af,g⟩ t=some true)(hx:ev t x=some (.pointer (some ⟨gg,off,none⟩)))(hi:dU P T i=true)
 (hf:i.flds[j]? =some (fo,fs+1)){off':Nat}(ho:off+fo=off')(h:aX P bl ops rest ⟨nt,(d,.pointer (some ⟨gg,off',none⟩))::t,L⟩ K):
 aX P bl ops (⟨some d,.fieldAddr T x j,ty,pos,af,g⟩::rest) ⟨nt,t,L⟩ K:=
 fM hd hg rfl (fun B a w hr=>by
 have h2:=hr.ev hx;obtain⟨fs',f,h3,h4,h5,h6⟩:=Zf hi hf;simp only at h5 h6;have hsz:(sizeOf f.type).run P w= .ok (fs+1) w:=by
  cases hq:P.info? f.type with
  |none=>rw[hq] at h6;simp at h6
  |some inf=>rw[hq] at h6;simp at h6;simp[sizeOf,typeInfo,hq,h6]
 subst ho;simp[execOp,h2,Instr.fieldAt,run_underlying h3,h4,Instr.sureAddr,fieldPlace,hsz,kJ,h5]) h
end
def TS{P:Program}{B:Bs}{Q:Exit->Act->World->Prop}{nt:Nat}{t:List (Nat×Value)}{L:List aF}{id:Nat}{l l':List Oper}{X:Type}(Tm:X->List (Nat×Value))(Lm:X->List aF)(E:List Nat)(n:Nat)(hm:P.follows .mixedOrders=true)
 (hc:(Region.noSelect l.toArray&&Ap l.toArray (Array.replicate l.toArray.size false) E&&decide (E.length+n=l.toArray.size))=true)(hl:E.map (fun i=>l.toArray.getD i default)=l')
 (h:aX P [] l.toArray l' ⟨nt,t,[]⟩ (fun s'=>yX P l.toArray (fun s'=>∃x:X,s'.nt=nt∧jE s'.t (Tm x)∧List.Perm s'.L (Lm x)) n (E.foldl (fun(x:Array Bool) i=>x.setIfInBounds i true) (Array.replicate l.toArray.size false)) ⟨nt,s'.t,L⟩))
 (hk:∀x,At B ⟨nt,Tm x,Lm x⟩ (Q .normal)):
 At B ⟨nt,t,L⟩ ((Code.region id l.toArray true).wp P Q):=fun a w hr=>by
 simp only[Bool.and_eq_true,decide_eq_true_eq] at hc;obtain⟨⟨h1,h2⟩,h3⟩:=hc;subst hl;refine wp_region_any hm ?_
 suffices hs:wpAny P .any l.toArray Q (E.length+n) (Array.replicate l.toArray.size false) a {w with drawn:=w.drawn+1} by rw[h3] at hs;exact hs
 refine qY (Q:=uJ (Q .normal)) (Q':=Q) (fun _ _ h=>h) (fun _ _ _ h=>h.elim) (fun⟨_,_,h⟩=>h.elim) _ _ _ _ ?_;refine y5 (B:=B) (G:=fun t listed=>yX P l.toArray (fun s'=>∃x:X,s'.nt=nt∧jE s'.t (Tm x)∧List.Perm s'.L (Lm x)) n listed ⟨nt,t,L⟩) h1 (fun t listed a hG hrel=>Oc (Q:=uJ (Q .normal)) (fun s' a' w' ⟨x,q1,q2,q3⟩ hr'=>hk x a' w' (by
 have:=hr'.sub (t:=Tm x) fun d v hd=>q2.mem (d,v) (tq hd)
 rw[q1] at this;exact⟨this.df,this.size,this.tmp,this.mem.perm q3⟩)) _ _ _ _ _ hG hrel) E _ t a h2 h hr.drew
end Go.Via
namespace Go.Via
variable[Mo]
open Go Go.RowKit
def Vx{P:Program}{B:Bs}{s:St}{Q:Exit->Act->World->Prop}{x y:Code}{nt:Nat}(T:List (Nat×Value))(LL:List aF)
 (h1:At B s (x.wp P (Exit.then (fun a w=>kD B ⟨nt,T,LL⟩ a w) Q)))(h2:At B ⟨nt,T,LL⟩ (y.wp P Q)):At B s ((Code.seq x y).wp P Q):=
 TB fun a w hr=>Code.wp_mono (fun e a w h=>by
 cases e with
 |normal=>exact h2 a w h
 |_=>exact h) (h1 a w hr)
def uK{B:Bs}{nt:Nat}{t T:List (Nat×Value)}{L LL:List aF}(lk:jE t T)(hw:eF L LL):At B ⟨nt,t,L⟩ (fun a w=>kD B ⟨nt,T,LL⟩ a w):=fun a w hr=>
 ⟨hr.df,hr.size,fun d v hd=>hr.tmp d v (lk.mem (d,v) (tq hd)),hw _ _ hr.mem⟩
end Go.Via
namespace Go.Via
variable[Mo]
open Go Go.RowKit
noncomputable abbrev gB(T:KU)(own:Bool):aF:=⟨none,gE T,[],0,own⟩
section
variable{P:Program}{bl:List Nat}{ops:Array Oper}{K:St->Prop}{rest:List Oper}{nt:Nat}{t:List (Nat×Value)}{L:List aF}{d:Nat}{ty:TypeId}{pos:String}{af:Array Edge}{g:Option (Nat×Bool)}
end
theorem aT.setG{B:Bs}{w:World}{L:List aF}(h:aT B L w){j:Nat}{b:aF}(hj:L[j]? =some b)(hb:b.base=none)(T:KU)(o:Bool)(hT:Fe T=true)
 (hf:∀p∈T,rX w p∧(o=true->B.own p.1)∧∀c∈L,c.own=true->c.base≠some p.1):aT B (L.set j (gB T o)) w:=by
 have hjl:=(List.getElem?_eq_some_iff.1 hj).1;have at_:∀(m:Nat) (c:aF),(L.set j (gB T o))[m]? =some c->c=gB T o∨(m≠j∧L[m]? =some c):=fun m c hm=>by
  by_cases e:j=m
  ·subst e;rw[List.getElem?_set_self hjl] at hm;cases hm;exact .inl rfl
  ·rw[List.getElem?_set_ne e] at hm;exact .inr ⟨fun h=>e h.symm,hm⟩
 have mem_:∀c∈L.set j (gB T o),c=gB T o∨c∈L:=fun c hc=>(List.mem_or_eq_of_mem_set hc).symm
 refine⟨h.bel,fun m c hm=>?_,fun i k g bi bk hik hi hk ho hg hgk=>?_,fun c hc hn U hU he p hp=>?_⟩
 ·rcases at_ m c hm with rfl|⟨_,h1⟩
  ·exact⟨fun g hg=>(by cases hg),fun _=>⟨rfl,rfl⟩⟩
  ·exact h.blk m c h1
 ·rcases at_ i bi hi with rfl|⟨_,h1⟩
  ·cases hg
  ·rcases at_ k bk hk with rfl|⟨_,h2⟩
   ·cases hgk
   ·exact h.apart i k g bi bk hik h1 h2 ho hg hgk
 ·rcases mem_ c hc with rfl|h1
  ·obtain rfl:=qf1 hT hU he;obtain⟨a1,a2,a3⟩:=hf p hp;refine⟨a1,a2,fun c' hc' ho'=>?_⟩
   rcases mem_ c' hc' with rfl|h2
   ·intro e;cases e
   ·exact a3 c' h2 ho'
  ·obtain⟨a1,a2,a3⟩:=h.grp c h1 hn U hU he p hp;refine⟨a1,a2,fun c' hc' ho'=>?_⟩
   rcases mem_ c' hc' with rfl|h2
   ·intro e;cases e
   ·exact a3 c' h2 ho'
end Go.Via
namespace Go.Via
variable[Mo]
open Go Go.RowKit
def FB(L:List aF)(g:Nat):Prop:=∃b∈L,b.own=true∧b.base=some g
def aT.ownG{B:Bs}{w:World}{L:List aF}(h:aT B L w){b:aF}(hb:b∈L)(ho:b.own=true){g:Nat}(hg:b.base=some g):B.own g:=by
 obtain⟨k,hk⟩:=List.mem_iff_getElem?.1 hb;exact((h.blk k b hk).1 g hg).2 ho
def aT.ltG{B:Bs}{w:World}{L:List aF}(h:aT B L w){b:aF}(hb:b∈L){g:Nat}(hg:b.base=some g):g<w.heap.size:=by
 obtain⟨k,hk⟩:=List.mem_iff_getElem?.1 hb;exact h.lt hk hg
def aT.rebase{B:Bs}{w:World}{L:List aF}(h:aT B L w)(hO:(L.all fun b=>Nat.blt b.e bW||(!b.own||b.base.isSome))=true):aT ⟨w,FB L,[]⟩ L w:=by
 refine⟨⟨rfl,rfl,rfl,Nat.le_refl _,fun _ _ _=>rfl,fun _=>Nat.le_refl _⟩,fun k b hk=>?_,h.apart,fun b hb hn T hT he p hp=>?_⟩
 ·obtain⟨h1,h2⟩:=h.blk k b hk;exact⟨fun g hg=>⟨(h1 g hg).1,fun ho=> .inr ⟨b,List.mem_of_getElem? hk,ho,hg⟩⟩,h2⟩
 ·obtain⟨a1,_,a3⟩:=h.grp b hb hn T hT he p hp;refine⟨a1,fun ho=>?_,a3⟩
  have:=List.all_eq_true.1 hO b hb;rw[ho,hn] at this;have h2:Nat.blt b.e bW=true:=(by simpa using this);have h3:b.e<bW:=(by simpa using h2);exact absurd (he▸h3) (IU T)
def aT.joinG{B:Bs}{w w':World}{A R new:List aF}(h:aT B (A++R) w)(h':aT ⟨w,FB A,[]⟩ new w')(hA:∀b∈A,b.own=true)(hn:∀b∈new,b.own=true∨∃a∈A,a.base=b.base∧b.base.isSome=true):aT B (new++R) w':=by
 have hS:∀g,FB A g->B.own g:=fun g ⟨b,hb,ho,hg⟩=>h.ownG (List.mem_append_left _ hb) ho hg
 have hle:Bs.le B ⟨w,FB A,[]⟩:=fun g hg=>by
  rcases hg with hg|hg
  ·exact .inl (Nat.le_trans h.bel.size hg)
  ·exact hS g hg
 have keep:∀g,g<w.heap.size->¬FB A g->w'.heap[g]? =w.heap[g]? :=fun g hg hS'=>h'.bel.block g hg hS'
 have apR:∀c∈R,∀g,c.base=some g->¬FB A g:=fun c hc g hg ⟨b,hb,ho,hbg⟩=>by
  obtain⟨i,hi⟩:=List.mem_iff_getElem?.1 hb;obtain⟨j,hj⟩:=List.mem_iff_getElem?.1 hc;have hil:=(List.getElem?_eq_some_iff.1 hi).1;exact h.apart i (A.length+j) g b c (by omega) (by rw[List.getElem?_append_left hil];exact hi) (by rw[List.getElem?_append_right (by omega),Nat.add_sub_cancel_left];exact hj) ho hbg hg
 have ownN:∀b∈new,∀g,b.base=some g->w.heap.size<=g∨FB A g:=fun b hb g hg=>by
  obtain⟨k,hk⟩:=List.mem_iff_getElem?.1 hb;rcases hn b hb with h1|⟨a,ha,h1,_⟩
  ·exact((h'.blk k b hk).1 g hg).2 h1
  ·exact .inr ⟨a,ha,hA a ha,h1.trans hg⟩
 have farN:∀b∈new,∀g,b.base=some g->∀c∈R,c.base≠some g:=fun b hb g hg c hc hcg=>by
  rcases ownN b hb g hg with h1|h1
  ·have:=h.ltG (List.mem_append_right _ hc) hcg;omega
  ·exact apR c hc g hcg h1
 refine⟨⟨h'.bel.os.trans h.bel.os,h'.bel.tape.trans h.bel.tape,h'.bel.output.trans h.bel.output,Nat.le_trans h.bel.size h'.bel.size,fun k hk hk'=>?_,fun m=>Nat.le_trans (h.bel.drawn m) (h'.bel.drawn m)⟩,fun k b hk=>?_,fun i j g bi bj hij hi hj ho hg hgj=>?_,fun b hb hb0 T hT he p hp=>?_⟩
 ·have h1:¬FB A k:=fun hq=>by
   rcases hS k hq with h2|h2
   ·omega
   ·exact hk' h2
  exact(keep k (Nat.lt_of_lt_of_le hk h.bel.size) h1).trans (h.bel.block k hk hk')
 ·rw[List.getElem?_append] at hk
  split at hk
  ·obtain⟨a1,a2⟩:=h'.blk k b hk;exact⟨fun g hg=>⟨(a1 g hg).1,fun ho=>hle _ ((a1 g hg).2 ho)⟩,a2⟩
  ·have hbR:=List.mem_of_getElem? hk;obtain⟨j,hj⟩:=List.mem_iff_getElem?.1 hbR;obtain⟨a1,a2⟩:=h.blk (A.length+j) b (by rw[List.getElem?_append_right (by omega),Nat.add_sub_cancel_left];exact hj);exact⟨fun g hg=>(a1 g hg).heap (keep g (a1 g hg).lt (apR b hbR g hg)),a2⟩
 ·rw[List.getElem?_append] at hi hj
  split at hi<;>split at hj
  ·exact h'.apart i j g bi bj hij hi hj ho hg hgj
  ·exact farN bi (List.mem_of_getElem? hi) g hg bj (List.mem_of_getElem? hj) hgj
  ·exact farN bj (List.mem_of_getElem? hj) g hgj bi (List.mem_of_getElem? hi) hg
  ·exact h.apart (A.length+(i-new.length)) (A.length+(j-new.length)) g bi bj (by omega) (by rw[List.getElem?_append_right (by omega),Nat.add_sub_cancel_left];exact hi) (by rw[List.getElem?_append_right (by omega),Nat.add_sub_cancel_left];exact hj) ho hg hgj
 ·rcases List.mem_append.1 hb with hb|hb
  ·obtain⟨a1,a2,a3⟩:=h'.grp b hb hb0 T hT he p hp;refine⟨a1,fun ho=>hle _ (a2 ho),fun c hc ho hg=>?_⟩
   rcases List.mem_append.1 hc with hc|hc
   ·exact a3 c hc ho hg
   ·rcases a2 ((hn b hb).resolve_right fun⟨_,_,_,h1⟩=>by rw[hb0] at h1;cases h1) with h1|h1
    ·have h1:w.heap.size<=p.1:=h1;have:=h.ltG (List.mem_append_right _ hc) hg;omega
    ·exact apR c hc _ hg h1
  ·obtain⟨a1,a2,a3⟩:=h.grp b (List.mem_append_right _ hb) hb0 T hT he p hp;have hnS:¬FB A p.1:=fun⟨c,hc,ho,hg⟩=>a3 c (List.mem_append_left _ hc) ho hg
   refine⟨a1.heap (keep p.1 a1.lt hnS),a2,fun c hc ho hg=>?_⟩
   rcases List.mem_append.1 hc with hc|hc
   ·rcases ownN c hc _ hg with h1|h1
    ·have:=a1.lt;omega
    ·exact hnS h1
   ·exact a3 c (List.mem_append_right _ hc) ho hg
def Hg:List aF->List Nat->List aF->List aF
 |L,k::ks,b::bs=>Hg (L.set k b) ks bs
 |L,_,_=>L
def y7:List (Option aF)->List Nat->List aF->List (Option aF)
 |M,k::ks,b::bs=>y7 (M.set k (some b)) ks bs
 |M,_,_=>M
def tu:List (Option aF)->List Nat->List (Option aF)
 |M,[]=>M
 |M,k::ks=>tu (M.set k none) ks
def ZH(L:List aF)(ks:List Nat):List aF:=(tu (L.map some) ks).filterMap id
theorem Qb:∀(ks:List Nat) (L bs:List aF),(Hg L ks bs).map some=y7 (L.map some) ks bs
 |[],L,bs=>by simp[Hg,y7]
 |k::ks,L,[]=>by simp[Hg,y7]
 |k::ks,L,b::bs=>by rw[Hg,y7,Qb ks,List.map_set]
theorem Jf:∀(ks:List Nat) (M:List (Option aF)) (bs:List aF),ks.Nodup->bs.length=ks.length->y7 (tu M ks) ks bs=y7 M ks bs
 |[],M,bs,_,_=>rfl
 |k::ks,M,[],_,h=>by simp at h
 |k::ks,M,b::bs,hn,h=>by
  have hn':=List.nodup_cons.1 hn;rw[tu,y7,y7];have e:(tu (M.set k none) ks).set k (some b)=tu (M.set k (some b)) ks:=by
   have key:∀(ks:List Nat) (M:List (Option aF)) (o:Option aF),k∉ks->(tu M ks).set k o=tu (M.set k o) ks:=by
    intro ks
    induction ks with
    |nil=>intro M o _;rfl
    |cons j ks ih=>
     intro M o hk;simp only[List.mem_cons,not_or] at hk;rw[tu,tu,ih _ _ hk.2,List.set_comm _ _ (fun e=>hk.1 e.symm)]
   rw[key ks _ _ hn'.1,List.set_set]
  rw[e];exact Jf ks _ bs hn'.2 (by simpa using h)
def Jg:∀(M:List (Option aF)) (k:Nat) (b:aF),M[k]? =some none->((M.set k (some b)).filterMap id).Perm (b::M.filterMap id)
 |[],k,b,h=>by simp at h
 |o::M,0,b,h=>by
  simp at h;subst h;simp
 |o::M,k+1,b,h=>by
  rw[List.getElem?_cons_succ] at h;have ih:=Jg M k b h;cases o with
  |none=>simpa using ih
  |some c=>
   simp only[List.set_cons_succ,List.filterMap_cons,id];exact(ih.cons c).trans (List.Perm.swap _ _ _)
def LU:∀(ks:List Nat) (M:List (Option aF)) (bs:List aF),ks.Nodup->(∀k∈ks,M[k]? =some none)->bs.length=ks.length->((y7 M ks bs).filterMap id).Perm (bs++M.filterMap id)
 |[],M,[],_,_,_=>List.Perm.refl _
 |[],M,_::_,_,_,h=>by simp at h
 |k::ks,M,[],_,_,h=>by simp at h
 |k::ks,M,b::bs,hn,hM,h=>by
  have hn':=List.nodup_cons.1 hn;have h1:=LU ks (M.set k (some b)) bs hn'.2 (fun j hj=>by
 have hne:k≠j:=fun e=>hn'.1 (e▸hj)
 rw[List.getElem?_set_ne hne];exact hM j (by simp[hj])) (by simpa using h)
  rw[y7];refine h1.trans ?_;refine((Jg M k b (hM k (by simp))).append_left bs).trans ?_;exact List.perm_middle
def qcS:∀(ks:List Nat) (M:List (Option aF)),(∀k∈ks,k<M.length)->∀k∈ks,(tu M ks)[k]? =some none:=by
 intro ks
 induction ks with
 |nil=>intro M _ k hk;cases hk
 |cons j ks ih=>
  intro M hl k hk;rw[tu]
  by_cases hm:k∈ks
  ·exact ih _ (fun i hi=>by rw[List.length_set];exact hl i (by simp[hi])) k hm
  ·have hkj:k=j:=by rcases List.mem_cons.1 hk with h|h;exact h;exact absurd h hm
   subst hkj;have key:∀(ks:List Nat) (M:List (Option aF)),k∉ks->(tu M ks)[k]? =M[k]? :=by
    intro ks
    induction ks with
    |nil=>intro M _;rfl
    |cons i ks ih2=>
     intro M hk;simp only[List.mem_cons,not_or] at hk;rw[tu,ih2 _ hk.2,List.getElem?_set_ne (fun e=>hk.1 e.symm)]
   rw[key ks _ hm,List.getElem?_set_self (hl k (by simp))]
theorem Qc:∀(L:List aF),(L.map some).filterMap id=L
 |[]=>rfl
 |a::L=>by simp
def FC{L:List aF}{ks:List Nat}{bs:List aF}(hn:ks.Nodup)(hl:∀k∈ks,k<L.length)(h:bs.length=ks.length):(Hg L ks bs).Perm (bs++ZH L ks):=by
 have h1:=LU ks (tu (L.map some) ks) bs hn (qcS ks _ (fun k hk=>by rw[List.length_map];exact hl k hk)) h;rw[Jf ks _ bs hn h,<-Qb,Qc] at h1;exact h1
theorem FD:∀{ks:List Nat} {L L0:List aF},ks.map (fun k=>L[k]?)=L0.map some->Hg L ks L0=L
 |[],L,L0,h=>by cases L0<;>simp[Hg]
 |k::ks,L,[],h=>by simp at h
 |k::ks,L,b::L0,h=>by
  simp only[List.map_cons,List.cons.injEq] at h;have e:L.set k b=L:=by
   obtain⟨hl,h2⟩:=List.getElem?_eq_some_iff.1 h.1;rw[<-h2];exact List.set_getElem_self hl
  rw[Hg,e];exact FD h.2
def setG:List aF->List Nat->List aF->List aF
 |L,k::ks,b::bs=>setG (L.set k b) ks bs
 |L,[],new=>L++new
 |L,_::_,[]=>L
theorem Vy:∀(ks:List Nat) (L bs:List aF),ks.length<=bs.length->setG L ks bs=Hg L ks (bs.take ks.length)++bs.drop ks.length
 |[],L,bs,_=>by simp[setG,Hg]
 |k::ks,L,[],h=>by simp at h
 |k::ks,L,b::bs,h=>by
  rw[setG,Vy ks _ _ (by simpa using h)];simp[Hg]
def LV{L:List aF}{ks:List Nat}{bs:List aF}(hn:ks.Nodup)(hl:∀k∈ks,k<L.length)(h:ks.length<=bs.length):(setG L ks bs).Perm (bs++ZH L ks):=by
 rw[Vy _ _ _ h];have h1:=FC (L:=L) (bs:=bs.take ks.length) hn hl (by rw[List.length_take];omega);refine(h1.append_right _).trans ?_;rw[List.append_assoc];refine(List.perm_append_comm.append_left _).trans ?_;rw[<-List.append_assoc,List.take_append_drop]
def Oi{A L:List aF}(h:(L.all fun b=>b.own)=true):∀b∈L,b.own=true∨∃a∈A,a.base=b.base∧b.base.isSome=true:=fun b hb=> .inl (List.all_eq_true.1 h b hb)
def Jh{L A C:List aF}(ks is:List Nat)(hn:ks.Nodup)(hk:ks.map (fun k=>L[k]?)=A.map some)
 (hA:(A.all fun b=>b.own&&(Nat.blt b.e bW||b.base.isSome))=true)(hp:iJ L (is.map some) C)(hC:(C.all fun b=> !b.own)=true)(hap:kK ((ks++is).map some) ((A++C).map (·.own))=true)
 {B:Bs}{w:World}(h:aT B L w):∃B':Bs,B'.D=[]∧aT B' (A++C) w∧∀(new:List aF) (w':World),Nat.ble ks.length new.length=true->(∀b∈new,b.own=true∨∃a∈A,a.base=b.base∧b.base.isSome=true)->aT B' new w'->aT B (setG L ks new) w':=by
 have hl:∀k∈ks,k<L.length:=fun k hk'=>by
  obtain⟨i,hi⟩:=List.mem_iff_getElem?.1 hk';have h1:(ks.map fun k=>L[k]?)[i]? =some L[k]? :=by rw[List.getElem?_map,hi];rfl
  rw[hk,List.getElem?_map] at h1;obtain⟨b,_,hb⟩:=Option.map_eq_some_iff.1 h1;exact(List.getElem?_eq_some_iff.1 hb.symm).1
 have hlen0:A.length=ks.length:=(by have:=congrArg List.length hk;simpa using this.symm);have pA:∀(ks:List Nat) (A:List aF),ks.map (fun k=>L[k]?)=A.map some->iJ L (ks.map some) A:=by
  intro ks
  induction ks with
  |nil=>intro A h;cases A with
   |nil=>exact trivial
   |cons=>simp at h
  |cons k ks ih=>intro A h;cases A with
   |nil=>simp at h
   |cons a A=>
    simp only[List.map_cons,List.cons.injEq] at h;exact⟨⟨a,h.1,a.le_refl⟩,ih A h.2⟩
 have pAC:∀(ks:List Nat) (A:List aF),iJ L (ks.map some) A->iJ L ((ks++is).map some) (A++C):=by
  intro ks
  induction ks with
  |nil=>intro A h;cases A with
   |nil=>simpa using hp
   |cons=>exact h.elim
  |cons k ks ih=>intro A h;cases A with
   |nil=>exact h.elim
   |cons a A=>exact⟨h.1,ih A h.2⟩
 have plen:∀{is:List Nat} {C:List aF},iJ L (is.map some) C->is.length=C.length:=by
  intro is
  induction is with
  |nil=>intro C hp;cases C with
   |nil=>rfl
   |cons c C=>exact hp.elim
  |cons k is ih=>intro C hp;cases C with
   |nil=>exact hp.elim
   |cons c C=>simp[ih hp.2]
 have h1:=h.picks ((ks++is).map some) (pAC ks A (pA ks A hk)) (by simp[hlen0,plen hp]) hap;have hO:((A++C).all fun b=>Nat.blt b.e bW||(!b.own||b.base.isSome))=true:=by
  rw[List.all_append,Bool.and_eq_true]
  constructor
  ·refine List.all_eq_true.2 fun b hb=>?_
   have:=List.all_eq_true.1 hA b hb;simp only[Bool.and_eq_true,Bool.or_eq_true] at this;simp only[Bool.or_eq_true];exact this.2.imp id .inr
  ·refine List.all_eq_true.2 fun b hb=>?_
   have:=List.all_eq_true.1 hC b hb;simp at this;simp[this]
 have h2:=h1.rebase hO;have hSA:FB (A++C)=FB A:=by
  funext g
  refine propext ⟨fun⟨b,hb,ho,hg⟩=>?_,fun⟨b,hb,ho,hg⟩=>⟨b,List.mem_append_left _ hb,ho,hg⟩⟩
  rcases List.mem_append.1 hb with hb|hb
  ·exact⟨b,hb,ho,hg⟩
  ·have:=List.all_eq_true.1 hC b hb;rw[ho] at this;cases this
 rw[hSA] at h2;have hp0:=FC (L:=L) hn hl hlen0;rw[FD hk] at hp0;have hL:=h.perm hp0;refine⟨⟨w,FB A,[]⟩,rfl,h2,fun new w' hlen hown hx=>?_⟩
 have h3:=hL.joinG hx (fun b hb=>by have:=List.all_eq_true.1 hA b hb;simp at this;exact this.1) hown;exact h3.perm (LV hn hl (Nat.le_of_ble_eq_true hlen)).symm
theorem yx.at{P:Program}{f:Nat}{L A C:List aF}{args:List Value}{X:Type}{res:X->Value}{L1:X->List aF}(hc:yx P f (A++C) args X res L1)(ks is:List Nat)(hn:ks.Nodup)(hk:ks.map (fun k=>L[k]?)=A.map some)
 (hA:(A.all fun b=>b.own&&(Nat.blt b.e bW||b.base.isSome))=true)(hp:iJ L (is.map some) C)(hC:(C.all fun b=> !b.own)=true)(hap:kK ((ks++is).map some) ((A++C).map (·.own))=true)(hlen:∀x,Nat.ble ks.length (L1 x).length=true)(hown:∀x,∀b∈L1 x,b.own=true∨∃a∈A,a.base=b.base∧b.base.isSome=true)
 {B:Bs}{w:World}(h:aT B L w):Calls P f args.toArray w fun e w'=>∃x,e= .returned (res x)∧aT B (setG L ks (L1 x)) w':=by
 obtain⟨B',hD,h2,hb⟩:=Jh ks is hn hk hA hp hC hap h;refine(hc.2 B' w hD h2).mono ?_;rintro e w' ⟨x,rfl,hx⟩;exact⟨x,rfl,hb _ _ (hlen x) (hown x) hx⟩
section
variable{P:Program}{bl:List Nat}{ops:Array Oper}{K:St->Prop}{rest:List Oper}{nt:Nat}{t:List (Nat×Value)}{L:List aF}{d:Nat}{ty:TypeId}{pos:String}{af:Array Edge}{g:Option (Nat×Bool)}{x y:Operand}
def ZI{f:Nat}{args:List Operand}{ts:Array TypeId}{dst:Option Nat}(vs:List Value){A C:List aF}{X:Type}{res:X->Value}{L1:X->List aF}(ks is:List Nat)(mk:X->List aF)(hM:Il bl=true)(hd:(match dst with|some d=>Nat.blt d nt|none=>true)=true)
 (hg:ax ops ⟨dst,.call {callee:= .value (.func f),args:=args.toArray,argTypes:=ts},ty,pos,af,g⟩ t=some true)
 (hv:args.map (ev t)=vs.map some)(hc:yx P f (A++C) vs X res L1)(hn:ks.Nodup)(hk:ks.map (fun k=>L[k]?)=A.map some)(hA:(A.all fun b=>b.own&&(Nat.blt b.e bW||b.base.isSome))=true)(hp:iJ L (is.map some) C)(hC:(C.all fun b=> !b.own)=true)(hap:kK ((ks++is).map some) ((A++C).map (·.own))=true)
 (hlen:∀x,Nat.ble ks.length (L1 x).length=true)(hown:∀x,∀b∈L1 x,b.own=true∨∃a∈A,a.base=b.base∧b.base.isSome=true)(hL:∀x,setG L ks (L1 x)=mk x)
 (h:∀x,aX P bl ops rest (({nt:=nt,t:=t,L:=mk x}:St).put dst (res x)) K):
 aX P bl ops (⟨dst,.call {callee:= .value (.func f),args:=args.toArray,argTypes:=ts},ty,pos,af,g⟩::rest) ⟨nt,t,L⟩ K:=
 Zm hd hg hM (X:=X) (nx:=fun x=>({nt:=nt,t:=t,L:=mk x}:St).put dst (res x)) (fun hd' B a w hr=>by
 unfold Oper.wp;rw[pY hc.1 a rfl rfl (vs:=vs.toArray) (by simp[nJ hr hv]) w];refine(hc.at ks is hn hk hA hp hC hap hlen hown hr.mem).mono ?_;rintro e w' ⟨x,rfl,hw⟩;refine⟨x,?_⟩;rw[hL] at hw;exact hr.put hd' hw) h
end
end Go.Via
