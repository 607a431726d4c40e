/-
  Part 5 (chapter 32): lemmas, walks. Each theorem states its own conditions.
-/
import GoSem.Core.World
import Derived.MapKept
import Derived.WalkKit
import Derived.WalkSpells
import Derived.WalkLawsBesides
import Derived.Deep.LoopGhost
import Derived.Test.YtaffcpfhedadhaaGreatDoorA03
import Derived.Test.YtaffcpfhedadhaaGreatDoorA04
set_option linter.all false
set_option maxRecDepth 20000
set_option maxHeartbeats 20000000
section
variable{P Q:Prop}{T:Type}{R:T->Prop}
def Gu(h:P:=by simpa using h2):=h
def qbc(h:P:=by simpa using hlt):=h
def MR(h:P:=by rw[hd'] at hd;simpa using hd):=h
def qbe(h:P:=by intro hb;rw[hb] at h1;cases h1):=h
def Gv(h:P:=by simp[VB hr hv]):=h
end
namespace Go.Via
variable[Mo]
open Go Go.RowKit
structure TI where
 agg:Bool
 size:Nat
 flds:List (Nat×Nat)
def quL:Option TypeDesc->Option Bool
 |some (.struct _)|some (.array _ _)=>some true
 |some _=>some false
 |none=>none
def qfx(P:Program):Option TypeDesc->List (Nat×Nat)
 |some (.struct fs)=>fs.toList.map fun f=>(f.offset,((P.info? f.type).map (·.size)).getD 0)
 |_=>[]
def dH(P:Program)(t:Nat)(i:TI):Bool:=
 (P.info? t).any (fun inf=>inf.size==i.size)&&(quL (P.underlying t)==some i.agg)&&(qfx P (P.underlying t)==i.flds)
def qmQ{P:Program}{t:Nat}{i:TI}(h:dH P t i=true):∃inf,P.info? t=some inf∧inf.size=i.size:=by
 simp only[dH,Bool.and_eq_true,Option.any_eq_true] at h;obtain⟨⟨⟨inf,h1,h2⟩,_⟩,_⟩:=h;exact⟨inf,h1,Gu⟩
theorem qrK{P:Program}{t:Nat}{i:TI}(h:dH P t i=true)(w:World):(isAgg t).run P w= .ok i.agg w:=by
 simp only[dH,Bool.and_eq_true,beq_iff_eq] at h;obtain⟨⟨_,h1⟩,_⟩:=h;cases hu:P.underlying t with
 |none=>rw[hu] at h1;cases h1
 |some d=>
  unfold isAgg;rw[Sem.run_bind,run_underlying hu w];rw[hu] at h1;cases d<;>simp_all[quL]
theorem lF{P:Program}{t:Nat}{i:TI}(h:dH P t i=true)(w:World):(sizeOf t).run P w= .ok i.size w:=by
 obtain⟨inf,h1,h2⟩:=qmQ h;simp[sizeOf,typeInfo,h1,h2]
def qfy{P:Program}{t:Nat}{i:TI}(h:dH P t i=true){j:Nat}{p:Nat×Nat}(hp:i.flds[j]? =some p):∃fs f,P.underlying t=some (.struct fs)∧fs[j]? =some f∧f.offset=p.1∧((P.info? f.type).map (·.size)).getD 0=p.2:=by
 simp only[dH,Bool.and_eq_true,beq_iff_eq] at h;obtain⟨_,h1⟩:=h;cases hu:P.underlying t with
 |none=>rw[hu] at h1;simp[qfx] at h1;rw[h1] at hp;simp at hp
 |some d=>
  rw[hu] at h1;cases d<;>simp only[qfx] at h1<;>first|(rw[<-h1] at hp;simp at hp;done)|skip
  rename_i fs
  rw[<-h1,List.getElem?_map] at hp;simp only[Option.map_eq_some_iff] at hp;obtain⟨f,h2,h3⟩:=hp;exact⟨fs,f,rfl,Gu,by rw[<-h3],by rw[<-h3]⟩
def aF.at(b:aF)(off:Nat):Value:= .pointer (b.base.map fun g=>⟨g,off,none⟩)
theorem iI(g off j:Nat):(⟨g,off,none⟩:Addr).add j=⟨g,off+j,none⟩:=by unfold Addr.add;split<;>simp_all
def aX.cell{B:Bs}{w:World}{L:List aF}(h:aX B L w){k:Nat}{b:aF}(hk:L[k]? =some b){j:Nat}{v:Value}(hj:b.cs[j]? =some v):
 ∃g,b.base=some g∧w.cell? ⟨g,j,none⟩=some v:=by
 obtain⟨h1,h2⟩:=h.blk k b hk;cases hb:b.base with
 |none=>rw[(h2 hb).1] at hj;simp at hj
 |some g=>
  obtain⟨cur,⟨e',fr,h3,_⟩,h4,h5⟩:=(h1 g hb).cells (.inr (fun e=>by rw[e] at hj;simp at hj));refine⟨g,rfl,?_⟩;rw[cell_of_row w g j cur e' fr h3];have hj':j<b.cs.length:=(List.getElem?_eq_some_iff.1 hj).1;rw[<-h5,List.getElem?_take,if_pos hj'] at hj
  simpa using hj
def aX.loadVar{P:Program}{B:Bs}{w:World}{L:List aF}(h:aX B L w){k:Nat}{b:aF}(hk:L[k]? =some b){T:Nat}{i:TI}(hi:dH P T i=true){off:Nat}{vs:List Value}{v:Value}
 (hvs:(b.cs.drop off).take i.size=vs)(hlen:vs.length=i.size)(hpos:0<i.size)(hv:(bif i.agg then some (.agg vs.toArray) else vs[0]?)=some v):
 ∃g,b.base=some g∧(Go.loadVar T ⟨g,off,none⟩).run P w= .ok v w:=by
 have hc:∀j u,vs[j]? =some u->b.cs[off+j]? =some u:=by
  intro j u hj;rw[<-hvs,List.getElem?_take] at hj
  split at hj
  ·simpa using hj
  ·cases hj
 obtain⟨u0,hu0⟩:∃u,vs[0]? =some u:=by rw[List.getElem?_eq_getElem ae];exact⟨_,rfl⟩
 obtain⟨g,hg,h0⟩:=h.cell hk (hc 0 u0 hu0);refine⟨g,hg,?_⟩;have hcell:∀j u,vs[j]? =some u->w.cell? ((⟨g,off,none⟩:Addr).add j)=some u:=by
  intro j u hj;obtain⟨g',hg',h1⟩:=h.cell hk (hc j u hj);rw[hg] at hg';cases hg';rw[iI];exact h1
 unfold Go.loadVar;rw[Sem.run_bind,qrK hi w];simp only[Result.andThen_ok];cases ha:i.agg with
 |true=>
  rw[ha] at hv;simp only[cond_true,Option.some.injEq] at hv;subst hv;have:=run_loadCells_list (P:=P) w ⟨g,off,none⟩ vs hcell;rw[hlen] at this;simp[Sem.run_bind,lF hi w,this]
 |false=>
  rw[ha] at hv;simp only[cond_false] at hv;have:=hcell 0 v hv;simp only[iI,Nat.add_zero] at this;simp[this]
section
variable{P:Program}{o:Oper}{s:St}
def qrL{x:Operand}{v:Value}(ho:o.op= .move x)(hx:ev s.t x=some v):Gp P o s v:=fun B a w hr=>by
 simp[execOp,ho,hr.ev hx]
def qfz{x:Operand}{v:Value}(ho:o.op= .assign x)(hx:ev s.t x=some v):Gp P o s v:=fun B a w hr=>by
 simp[execOp,ho,hr.ev hx]
def qfA{c x y:Operand}{b:Bool}{v:Value}(ho:o.op= .pick c x y)(hc:ev s.t c=some (.bool b))(hv:ev s.t (if b then x else y)=some v):Gp P o s v:=fun B a w hr=>by
 have h1:=hr.ev hc;have h2:=hr.ev hv;cases b<;>simp[execOp,ho,h1,asBool]<;>simpa using h2
def qfB{T:Nat}{x:Operand}{i:TI}{b:aF}{off:Nat}{vs:List Value}{v:Value}(ho:o.op= .load T x)(k:Nat)(hk:s.L[k]? =some b)(hx:ev s.t x=some (b.at off))(hi:dH P T i=true)
 (hvs:(b.cs.drop off).take i.size=vs)(hlen:vs.length=i.size)(hpos:0<i.size)(hv:(bif i.agg then some (.agg vs.toArray) else vs[0]?)=some v):Gp P o s v:=fun B a w hr=>by
 obtain⟨g,hg,h1⟩:=hr.mem.loadVar hk hi hvs hlen hpos hv;have h2:=hr.ev hx;unfold aF.at at h2;rw[hg] at h2;simp only[Option.map_some] at h2;simp[execOp,ho,h2,Instr.loadAt,Instr.sureAddr,h1]
end
def Yj(w:World)(g:Nat)(cur':Array Value){es:Array MapEntry}{c:Nat}(h:w.heap[g]? =some (.map es c)):(w.setRow g cur').heap[g]? =some (.map es c):=by
 have hlt:g<w.heap.size:=(Array.getElem?_eq_some_iff.1 h).1;have hv:w.heap[g]= .map es c:=(Array.getElem?_eq_some_iff.1 h).2;unfold World.setRow;rw[Array.getElem?_eq_getElem qbc,Array.getElem_modify];simp[hv]
theorem aX.set{B:Bs}{w:World}{L:List aF}(h:aX B L w){k:Nat}{b:aF}(hk:L[k]? =some b)(ho:b.own=true){g:Nat}(hg:b.base=some g)(cur':Array Value)(cs':List Value)
 (hn:cur'.size=b.n)(hc:cur'.toList.take cs'.length=cs'):aX B (L.set k {b with cs:=cs'}) (w.setRow g cur'):=by
 have h6:=((h.blk k b hk).1 g hg).2;have hkl:k<L.length:=(List.getElem?_eq_some_iff.1 hk).1;have base:∀(m:Nat) (bm:aF),(L.set k {b with cs:=cs'})[m]? =some bm->∃bm',L[m]? =some bm'∧bm'.base=bm.base∧bm'.own=bm.own∧bm'.e=bm.e:=by
  intro m bm hm
  by_cases e:k=m
  ·subst e;rw[List.getElem?_set_self hkl] at hm;cases hm;exact⟨b,hk,rfl,rfl,rfl⟩
  ·rw[List.getElem?_set_ne e] at hm;exact⟨bm,hm,rfl,rfl,rfl⟩
 refine⟨h.bel.one (h6 ho) rfl rfl rfl bz (fun i hne=>setRow_other w g i _ ae),fun j b' hj=>?_,fun i j g' bi bj hij hi hj hoi hgi hgj=>?_,?_⟩
 rotate_left 2
 ·refine(h.grp.step (w':=w.setRow g cur') fun g' _ hc=>setRow_other w g g' _ (fun e=>hc b (List.mem_of_getElem? hk) ho (by rw[hg,e]))).sub (fun c hc hn=>?_) (fun c hc hoc g' hgc=>?_)
  ·obtain⟨m,hm⟩:=List.mem_iff_getElem?.1 hc;obtain⟨c',c1,c2,c3,c4⟩:=base m c hm;exact .inr ⟨c',List.mem_of_getElem? c1,by rw[c2];exact hn,c4,fun h=>by rw[c3];exact h⟩
  ·obtain⟨m,hm⟩:=List.mem_iff_getElem?.1 hc;obtain⟨c',c1,c2,c3,c4⟩:=base m c hm;exact⟨c',List.mem_of_getElem? c1,by rw[c3];exact hoc,by rw[c2];exact hgc⟩
 ·by_cases e:k=j
  ·subst e;rw[List.getElem?_set_self hkl] at hj;cases hj;refine⟨fun g' hg'=>?_,fun hn'=>by rw[hg] at hn';cases hn'⟩
   rw[hg] at hg';cases hg';refine⟨?_,h6⟩;rcases((h.blk k b hk).1 g hg).1 with⟨cur,⟨e',fr,h3,hfr,hlt⟩,h4,h5⟩|⟨l,es,c,a1,a2,a3,a4,h3,a5⟩
   ·obtain⟨rfl,rfl⟩:=hfr ho;exact .inl ⟨cur',⟨_,_,setRow_heap w g cur cur' b.e (0,0) h3,fun _=>⟨rfl,rfl⟩,hlt⟩,hn,hc⟩
   ·have hcs:cs'=[]:=by
     have h7:cur'.toList=[]:=List.eq_nil_of_length_eq_zero (by rw[Array.length_toList,hn,a3]);rw[h7] at hc;simpa using hc.symm
    exact .inr ⟨l,es,c,a1,hcs,a3,a4,Yj w g cur' h3,a5⟩
  ·rw[List.getElem?_set_ne e] at hj;obtain⟨h1,h2⟩:=h.blk j b' hj;refine⟨fun g' hg'=>?_,h2⟩;have h8:=h1 g' hg';have hne:g'≠g:=fun e'=>h.apart k j g b b' e hk hj ho hg (by rw[hg',e'])
   exact h8.heap (setRow_other w g g' _ hne)
 ·obtain⟨bi',a1,a2,a3,_⟩:=base i bi hi;obtain⟨bj',c1,c2,c3,_⟩:=base j bj hj;exact h.apart i j g' bi' bj' hij a1 c1 (by rw[a3];exact hoi) (by rw[a2];exact hgi) (by rw[c2];exact hgj)
section
variable{P:Program}{o:Oper}{s:St}
def IR{X:Type}{nx:X->St}(h:∀(B:Bs) (a:Act) (w:World),kK B s a w->∃v w' x,(execOp a.eval o).run P w= .ok (.value v) w'∧kK B (nx x) (a.put o.dst v) w'):Eff P o s X nx:=fun B a w hr=>by
 obtain⟨v,w',x,h1,h2⟩:=h B a w hr;unfold Oper.wp;rw[h1];exact⟨x,h2⟩
def quM{T:Nat}{x:Operand}{v:Value}(hT:T<cO)(hd:∀d,o.dst=some d->d<s.nt)(ho:o.op= .box T x)(hx:ev s.t x=some v):
 Eff P o s Nat (fun g=>({s with L:=s.L++[⟨some g,T,v.cells.toList,v.cells.size,true⟩]}:St).put o.dst (.pointer (some ⟨g,0,none⟩))):=
 IR fun B a w hr=>⟨.pointer (some ⟨w.heap.size,0,none⟩),w.alloc (.cells v.cells T),w.heap.size,by simp[execOp,ho,hr.ev hx,Instr.box,newVar,newRow],hr.put hd (hr.mem.alloc T v.cells hT)⟩
def qdn{T:Nat}{z:Value}{tt:List (Nat×Value)}(hT:T<cO)(ho:o.op= .alloc T)(hz:(P.info? T).bind (·.zero)=some z):Bh P tt o=some (T,z.cells):=by
 unfold Bh;rw[ho];dsimp only;rw[if_pos hT,hz];rfl
def Gw{T:Nat}{x y:Operand}{i:TI}{b:aF}{off:Nat}{v:Value}(ho:o.op= .store T x y)(k:Nat)(hk:s.L[k]? =some b)(hown:b.own=true)(hx:ev s.t x=some (b.at off))(hb:b.base.isSome=true)
 (hy:ev s.t y=some v)(hi:dH P T i=true)(hsz:v.cells.size=i.size)(hpos:0<i.size)(hfit:off+i.size<=b.cs.length)(h1:(v.cells.toList.all fun u=>u.oneCell')=true):
 qft P o s (s.L.set k {b with cs:=b.cs.take off++v.cells.toList++b.cs.drop (off+i.size)}):=fun B a w hr=>by
 obtain⟨g,hg⟩:=Option.isSome_iff_exists.1 hb;have h2:=hr.ev hx;unfold aF.at at h2;rw[hg] at h2;simp only[Option.map_some] at h2;obtain⟨cur,⟨e',fr,h3,hfr,_⟩,h4,h5⟩:=((hr.mem.blk k b hk).1 g hg).cells (.inr (fun e=>by rw[e] at hfit;simp at hfit;omega));obtain⟨rfl,rfl⟩:=hfr hown;have hlc:b.cs.length<=cur.size:=by
  have:=congrArg List.length h5;simp at this;omega
 have hvl:v.cells.toList.length=i.size:=(by simp[hsz]);have hst:=run_storeCells_at P g off b.e v.cells.toList 0 cur w h3 (by rw[hvl];omega) (fun u hu=>List.all_eq_true.1 h1 u hu);simp only[Nat.add_zero] at hst;have hrun:(execOp a.eval o).run P w= .ok .skip (w.setRow g (cur.toList.take off++v.cells.toList++cur.toList.drop (off+v.cells.toList.length)).toArray):=by
  simp only[execOp,ho,hr.ev hy,h2,Instr.storeAt,Instr.sureAddr,Sem.run_bind,Sem.run_pure,Result.andThen_ok];unfold Go.storeVar;simp only[Sem.run_bind,lF hi w,Result.andThen_ok,hsz,ne_eq,not_true,if_false,Sem.run_ite];simp[hst]
 refine⟨_,hrun,?_⟩;refine hr.mem.set hk hown hg _ _ ?_ ?_
 ·simp only[List.size_toArray,List.length_append,List.length_take,List.length_drop,Array.length_toList,hvl];rw[<-h4];simp only[Array.length_toList] at*;omega
 ·simp only[hvl];have hct:cur.toList=b.cs++cur.toList.drop b.cs.length:=by
   conv=>lhs;rw[<-List.take_append_drop b.cs.length cur.toList,h5]
  generalize hcl:cur.toList=cl at*
  generalize hr':cl.drop b.cs.length=rest at*
  subst hct;have e1:(b.cs++rest).take off=b.cs.take off:=by rw[List.take_append_of_le_length ae]
  have e2:(b.cs++rest).drop (off+i.size)=b.cs.drop (off+i.size)++rest:=(by rw[List.drop_append_of_le_length hfit]);rw[e1,e2,<-List.append_assoc];exact List.take_left
end
end Go.Via
namespace Go.Via
variable[Mo]
open Go Go.RowKit
def At(B:Bs)(s:St)(X:Act->World->Prop):Prop:=∀(a:Act) (w:World),kK B s a w->X a w
section
variable{P:Program}{B:Bs}{s:St}{Q:Exit->Act->World->Prop}
def Yk{x y:Code}(h:At B s (x.wp P (Exit.then (y.wp P Q) Q))):At B s ((Code.seq x y).wp P Q):=fun a w hr=>wp_seq (h a w hr)
def jA{c:Operand}{x y:Code}{b:Bool}(hc:ev s.t c=some (.bool b))(h1:b=true->At B s (x.wp P Q))(h2:b=false->At B s (y.wp P Q)):At B s ((Code.cond c x y).wp P Q):=fun a w hr=>by
 have:=hr.ev hc;cases b
 ·exact wp_cond_false this (h2 rfl a w hr)
 ·exact wp_cond_true this (h1 rfl a w hr)
def qfC{c:Operand}{x y:Code}(hc:ev s.t c=some (.bool true))(h:At B s (x.wp P Q)):At B s ((Code.cond c x y).wp P Q):=fun a w hr=>wp_cond_true (hr.ev hc) (h a w hr)
def qfD{c:Operand}{x y:Code}(hc:ev s.t c=some (.bool false))(h:At B s (y.wp P Q)):At B s ((Code.cond c x y).wp P Q):=fun a w hr=>wp_cond_false (hr.ev hc) (h a w hr)
def qmR(h:At B s (Q .normal)):At B s (Code.skip.wp P Q):=fun a w hr=>wp_skip (h a w hr)
def qrM(h:At B s (Q .ret)):At B s (Code.ret.wp P Q):=fun a w hr=>wp_ret (h a w hr)
def qfE{id:Nat}{c:Code}(h:At B s (c.wp P (Exit.inBlock id Q))):At B s ((Code.block id c).wp P Q):=fun a w hr=>wp_block (h a w hr)
def qmS{id:Nat}(h:At B s (Q (.exit id))):At B s ((Code.exit id).wp P Q):=fun a w hr=>wp_exit (h a w hr)
def qdo{id:Nat}{l:List Oper}(h:aU P [] l.toArray l s (fun s'=>At B s' (Q .normal))):At B s ((Code.region id l.toArray false).wp P Q):=fun a w hr=>
 wp_region_lit (aU.sound h hr (fun s' a' w' h1 h2=>h1 a' w' h2))
def mG{id:Nat}{l:List Oper}(h:aU P [1000000] l.toArray l s (fun s'=>At B s' (Q .normal))):At B s ((Code.region id l.toArray false).wp P Q):=fun a w hr=>
 wp_region_lit (aU.sound h hr (fun s' a' w' h1 h2=>h1 a' w' h2))
def MS{id:Nat}{l l':List Oper}(bl perm:List Nat)(hm:P.follows .mixedOrders=true)(hc:xB bl l.toArray perm=true)(hl:perm.map (fun i=>l.toArray.getD i default)=l')(hf:MQ bl l.toArray s=true)
 (h:aU P bl l.toArray l' s (fun s'=>At B s' (Q .normal))):At B s ((Code.region id l.toArray true).wp P Q):=fun a w hr=>
 qfw (K:=fun s'=>At B s' (Q .normal)) perm hm hc hl hf h (fun s' a' w' h1 h2=>h1 a' w' h2) hr
def qmT{ι:Type}{c:Code}(inv:ι->St)(μ:ι->Nat)(i₀:ι)(h₀:∀a w,kK B s a w->kK B (inv i₀) a w)
 (round:∀i,At B (inv i) (c.wp P (Exit.then (fun a' w'=>∃j,μ j<μ i∧kK B (inv j) a' w') Q))):At B s ((Code.loop c).wp P Q):=fun a w hr=>by
 refine wp_loop_ghost (fun n a w=>∃i,μ i=n∧kK B (inv i) a w) (μ i₀) ⟨i₀,rfl,h₀ a w hr⟩ ?_;rintro n a w ⟨i,rfl,hi⟩;refine wp_mono (round i a w hi) ?_;intro e a' w' hq;cases e with
 |normal=>obtain⟨j,h1,h2⟩:=hq;exact⟨μ j,h1,j,rfl,h2⟩
 |_=>exact hq
def kK.sub{t:List (Nat×Value)}{a:Act}{w:World}(hr:kK B s a w)(h:∀d v,look t d=some v->look s.t d=some v):kK B ⟨s.nt,t,s.L⟩ a w:=
 ⟨hr.df,hr.size,fun d v hd=>hr.tmp d v (h d v hd),hr.mem⟩
end
section
variable{P:Program}{bl:List Nat}{ops:Array Oper}{s:St}{K:St->Prop}{rest:List Oper}
def Tc(h:K s):aU P bl ops [] s K:=h
def eY{o:Oper}{v:Value}(hd:(match o.dst with|some d=>Nat.blt d s.nt|none=>true)=true)(hg:az ops o s.t=some true)(_hc:(kz o||(isAl o||isSto o))=false)(hq:Gp P o (s.bk bl) v)
 (h:aU P bl ops rest (s.put o.dst v) K)(hp:Bi o=true->oq P s.t o=some v:=by intro h;cases h):aU P bl ops (o::rest) s K:=
 ⟨fun d hd'=>MR,true,hg,.inr ⟨rfl,.inl ⟨by rw[Bool.or_eq_false_iff] at _hc;rw[_hc.2,Bool.and_false],v,⟨hq,fun _=>hp⟩,h⟩⟩⟩
def qrN{o:Oper}{v:Value}(hd:(match o.dst with|some d=>Nat.blt d s.nt|none=>true)=true)(hg:az ops o s.t=some true)(ha:(isAl o||isSto o)=false)(hq:Gp P o (s.bk bl) v)
 (h:aU P bl ops rest (s.put o.dst v) K)(hp:Bi o=true->oq P s.t o=some v:=by intro h;cases h):aU P bl ops (o::rest) s K:=
 ⟨fun d hd'=>MR,true,hg,.inr ⟨rfl,.inl ⟨by rw[ha,Bool.and_false],v,⟨hq,fun _=>hp⟩,h⟩⟩⟩
def qrO{o:Oper}(hd:(match o.dst with|some d=>Nat.blt d s.nt|none=>true)=true)(hg:az ops o s.t=some false)(h:aU P bl ops rest (s.put o.dst undef) K):aU P bl ops (o::rest) s K:=
 ⟨fun d hd'=>MR,false,hg,.inl ⟨rfl,h⟩⟩
def Gx{o:Oper}{X:Type}{res:X->Value}{new:X->List aF}(hd:(match o.dst with|some d=>Nat.blt d s.nt|none=>true)=true)(hg:az ops o s.t=some true)(hc:kz o=true)(hq:SV P o s X res new)(hF:Lu bl=true->Gq P o s X res new∧Nonempty X)
 (h:∀x,aU P bl ops rest (({s with L:=s.L++new x}:St).put o.dst (res x)) K):aU P bl ops (o::rest) s K:=
 ⟨fun d hd'=>MR,true,hg,.inr ⟨rfl,.inr (.inl ⟨hc,X,res,new,hq,hF,h⟩)⟩⟩
def MV{o:Oper}{X:Type}{nx:X->St}(hd:(match o.dst with|some d=>Nat.blt d s.nt|none=>true)=true)(hg:az ops o s.t=some true)(hm:(je o||isAsg o||(isAl o||isSto o))=false)(hm':((isSto o||isME o)&&IE bl)=false)(hq:(∀d,o.dst=some d->d<s.nt)->Eff P o s X nx)
 (h:∀x,aU P bl ops rest (nx x) K):aU P bl ops (o::rest) s K:=
 have hd':∀d,o.dst=some d->d<s.nt:=fun d hd'=>MR
 ⟨hd',true,hg,.inr ⟨rfl,.inr (.inr (.inl ⟨by rw[Bool.or_eq_false_iff,Bool.or_eq_false_iff] at hm;simp[Yi,hm.1.1,hm.1.2],by rw[Bool.or_eq_false_iff] at hm;rw[hm.2,Bool.and_false],by rw[hm',Bool.and_false],X,nx,hq hd',h⟩))⟩⟩
def qfF{o:Oper}{X:Type}{nx:X->St}(hd:(match o.dst with|some d=>Nat.blt d s.nt|none=>true)=true)(hg:az ops o s.t=some true)(hb:LC bl=true)(hq:(∀d,o.dst=some d->d<s.nt)->Eff P o s X nx)
 (h:∀x,aU P bl ops rest (nx x) K):aU P bl ops (o::rest) s K:=
 have hd':∀d,o.dst=some d->d<s.nt:=fun d hd'=>MR
 ⟨hd',true,hg,.inr ⟨rfl,.inr (.inr (.inl ⟨by rw[hb];rfl,by rw[show bl=[1000000] by simpa[LC] using hb];rfl,by rw[hb];rfl,X,nx,hq hd',h⟩))⟩⟩
def qbf{o:Oper}{L':List aF}(hg:az ops o s.t=some true)(hs:isSto o=true)(hd:o.dst=none)(he:qft P o s L')(hb:IE bl=true->blank bl L'=blank bl s.L)(h:aU P bl ops rest {s with L:=L'} K):aU P bl ops (o::rest) s K:=
 ⟨fun d hd'=>(by rw[hd] at hd';cases hd'),true,hg,.inr ⟨rfl,.inr (.inr (.inr (.inl ⟨hs,hd,L',he,hb,h⟩)))⟩⟩
def qfG{o:Oper}{e:TypeId}{cs:Array Value}(hd:(match o.dst with|some d=>Nat.blt d s.nt|none=>true)=true)(hg:az ops o s.t=some true)(ha:isAl o=true)(hq:Bh P s.t o=some (e,cs))
 (h:∀g,aU P bl ops rest (({s with L:=s.L++[alB g e cs]}:St).put o.dst (alV o g)) K):aU P bl ops (o::rest) s K:=
 ⟨fun d hd'=>MR,true,hg,.inr ⟨rfl,.inr (.inr (.inr (.inr (.inl ⟨ha,e,cs,hq,h⟩))))⟩⟩
end
def iP(P:Program)(f:Nat):Bool:=match P.funcs[f]? with
 |some fn=>fn.body.isSome&& !(fn.name== "runtime.NumGoroutine")
 |none=>false
theorem rC{P:Program}{f:Nat}(hf:iP P f=true)(a:Act){o:Oper}{x:Operand}{args:Array Operand}{ts:Array TypeId}(ho:o.op= .call {callee:= .value x,args:=args,argTypes:=ts})(hx:a.eval x= .func (.func f) #[] #[]){vs:Array Value}(hv:args.map a.eval=vs)(w:World):
 (execOp a.eval o).run P w= .ok (.enter f vs) w:=by
 unfold iP at hf;cases hq:P.funcs[f]? with
 |none=>rw[hq] at hf;cases hf
 |some fn=>
  rw[hq] at hf;simp only[Bool.and_eq_true,Bool.not_eq_true'] at hf;obtain⟨h1,h2⟩:=hf;have h3:fn.body≠none:=qbe
  have h4:¬fn.name= "runtime.NumGoroutine" :=Gu;simp[execOp,ho,resolve,hx,Deferred.ofValue,invoke,callFunc,hv,hq,h4,h3]
def aG(P:Program)(f:Nat)(args:Array Value)(v:Value):Prop:=
 iP P f=true∧∀w,Calls P f args w fun e w'=>e= .returned v∧dV w.heap.size w w'
theorem VB{B:Bs}{s:St}{a:Act}{w:World}(hr:kK B s a w):∀{l:List Operand} {vs:List Value},l.map (ev s.t)=vs.map some->l.map a.eval=vs
 |[],vs,h=>by cases vs<;>simp_all
 |x::l,vs,h=>by
  cases vs with
  |nil=>simp at h
  |cons v vs=>
   simp only[List.map_cons,List.cons.injEq] at h;rw[List.map_cons,hr.ev h.1,VB hr h.2]
def qrP{P:Program}{o:Oper}{s:St}{f:Nat}{args:List Operand}{ts:Array TypeId}{vs:List Value}{v:Value}(ho:o.op= .call {callee:= .value (.func f),args:=args.toArray,argTypes:=ts})
 (hv:args.map (ev s.t)=vs.map some)(hc:aG P f vs.toArray v):SV P o s Unit (fun _=>v) (fun _=>[]):=fun B a w hr=>by
 refine⟨f,vs.toArray,rC hc.1 a ho rfl Gv w,(hc.2 w).mono ?_⟩;rintro e w' ⟨rfl,hw⟩;exact⟨(),rfl,by simpa using hr.mem.same hw⟩
def qmU{P:Program}{o:Oper}{s:St}{f:Nat}{args:List Operand}{ts:Array TypeId}{vs:List Value}{v:Value}(ho:o.op= .call {callee:= .value (.func f),args:=args.toArray,argTypes:=ts})
 (hv:args.map (ev s.t)=vs.map some)(hc:aG P f vs.toArray v):Gq P o s Unit (fun _=>v) (fun _=>[]):=fun B a w hr=>by
 refine⟨f,vs.toArray,rC hc.1 a ho rfl Gv w,(hc.2 w).mono ?_⟩;rintro e w' ⟨rfl,hw⟩;exact⟨(),rfl,⟨.of hw,fun k b hk=>Vq,(fun i j g bi bj hij hi=>MJ),mF.nil _ _⟩,fun b hb=>MI⟩
def qpY{P:Program}{o:Oper}{s:St}{f:Nat}{args:List Operand}{ts:Array TypeId}{vs:List Value}{X:Type}{res:X->Value}{new:X->List aF}(ho:o.op= .call {callee:= .value (.func f),args:=args.toArray,argTypes:=ts})
 (hv:args.map (ev s.t)=vs.map some)(hf:iP P f=true)(hc:∀(B:Bs) (w:World),aX B s.L w->Calls P f vs.toArray w fun e w'=>∃x,e= .returned (res x)∧aX B (s.L++new x) w'):SV P o s X res new:=fun B a w hr=>
 ⟨f,vs.toArray,rC hf a ho rfl Gv w,hc B w hr.mem⟩
def qrQ{P:Program}{o:Oper}{s:St}{f:Nat}{args:List Operand}{ts:Array TypeId}{vs:List Value}{X:Type}{res:X->Value}{new:X->List aF}(ho:o.op= .call {callee:= .value (.func f),args:=args.toArray,argTypes:=ts})
 (hv:args.map (ev s.t)=vs.map some)(hf:iP P f=true)(hc:∀(B:Bs) (w:World),aX B s.L w->Calls P f vs.toArray w fun e w'=>∃x,e= .returned (res x)∧aX w (new x) w'∧∀b∈new x,b.own=true):Gq P o s X res new:=fun B a w hr=>
 ⟨f,vs.toArray,rC hf a ho rfl Gv w,hc B w hr.mem⟩
def qfH:Nat->List Value->List (Nat×Value)
 |_,[]=>[]
 |k,v::l=>(k,v)::qfH (k+1) l
def qdp{l:List Value}:∀{k d:Nat} {v:Value},look (qfH k l) d=some v->k<=d∧l[d-k]? =some v:=by
 induction l with
 |nil=>intro k d v h;cases h
 |cons x l ih=>
  intro k d v h
  by_cases e:k=d
  ·subst e;rw[qfH,dO] at h;cases h;simp
  ·rw[qfH,cZ e] at h;obtain⟨h1,h2⟩:=ih h;refine⟨ae,?_⟩;rw[show d-k=(d-(k+1))+1 by omega,List.getElem?_cons_succ];exact h2
def aX.nil(w:World):aX w [] w:=⟨.of (dV.refl _ _),fun k b hk=>Vq,(fun i j g bi bj hij hi=>MJ),mF.nil _ _⟩
def vk{P:Program}{f:Nat}{fn:Func}{c:Code}{args:List Value}{B:Bs}{w:World}{R:Ending->World->Prop}{L:List aF}(hf:P.funcs[f]? =some fn)(hb:fn.body=some c)(hn:args.length<=fn.ntmps)(hL:aX B L w)
 (h:At B ⟨fn.ntmps,qfH 0 args,L⟩ (c.wp P (bodyPost P fn R)))(hD:B.D=[]:=by first|rfl|assumption):Calls P f args.toArray w R:=by
 refine calls_of_wp hf hb (h _ _ ⟨hD.symm,?_,fun d v hd=>?_,hL⟩)
 ·simp;omega
 ·obtain⟨_,h2⟩:=qdp hd;simp only[Nat.sub_zero] at h2;have hlt:=(List.getElem?_eq_some_iff.1 h2).1;simp only[List.size_toArray];rw[Array.getElem?_append_left qbc]
  simpa using h2
def JR(P:Program)(s:St)(r:ResultVar)(v:Value):Prop:=∀(B:Bs) (a:Act) (w:World),kK B s a w->
 (match r with| .tmp t=>pure (a.tmps.getD t undef)| .cell p t=>do Go.loadVar t (<-asAddr (a.tmps.getD p undef)):Sem Value).run P w= .ok v w
def ax{P:Program}{s:St}{t:Nat}{v:Value}(h:look s.t t=some v):JR P s (.tmp t) v:=fun B a w hr=>by
 have:=hr.tmp t v h;simp[this]
def bn{P:Program}{s:St}{p T:Nat}{b:aF}{i:TI}{vs:List Value}{v:Value}(k:Nat)(hk:s.L[k]? =some b)(h:look s.t p=some (b.at 0))(hi:dH P T i=true)(hvs:b.cs.take i.size=vs)(hlen:vs.length=i.size)(hpos:0<i.size)
 (hv:(bif i.agg then some (.agg vs.toArray) else vs[0]?)=some v):JR P s (.cell p T) v:=fun B a w hr=>by
 have h1:=hr.tmp p _ h;obtain⟨g,hg,h2⟩:=hr.mem.loadVar (P:=P) hk hi (off:=0) (by simpa using hvs) hlen hpos hv;unfold aF.at at h1;rw[hg] at h1;simp only[Option.map_some] at h1;simp[h1,asAddr,h2]
def aH{P:Program}{B:Bs}{fn:Func}{R:Ending->World->Prop}{s:St}{r:ResultVar}{v:Value}(hfn:fn.results= #[r])(h:JR P s r v)(hR:∀w,aX B s.L w->R (.returned v) w)(hD:B.D=[]:=by first|rfl|assumption):At B s (bodyPost P fn R .ret):=fun a w hr=>by
 refine⟨hr.df.trans hD,v,?_,hR w hr.mem⟩;have:=h B a w hr;cases r with
 |tmp t=>simp only[Sem.run_pure] at this;simp[results,hfn];simpa using this
 |cell p T=>
  simp only[Sem.run_bind] at this;simp only[results,hfn];simp[Sem.run_bind,Result.andThen] at this ⊢
  split at this<;>simp_all
def bT{P:Program}{B:Bs}{fn:Func}{R:Ending->World->Prop}{s:St}{r r':ResultVar}{v v':Value}(hfn:fn.results= #[r,r'])(h:JR P s r v)(h':JR P s r' v')(hR:∀w,aX B s.L w->R (.returned (.tuple #[v,v'])) w)(hD:B.D=[]:=by first|rfl|assumption):At B s (bodyPost P fn R .ret):=fun a w hr=>by
 refine⟨hr.df.trans hD,.tuple #[v,v'],?_,hR w hr.mem⟩;have h1:=h B a w hr;have h2:=h' B a w hr;unfold results;rw[hfn];simp only[List.mapM_toArray,List.mapM_cons,List.mapM_nil,Sem.run_bind,Sem.run_map,bind_pure_comp];cases r<;>cases r'<;>simp only[Sem.run_bind,Sem.run_pure] at h1 h2 ⊢ <;>simp_all
def DJ{P:Program}{B:Bs}{fn:Func}{R:Ending->World->Prop}{s:St}{r r' r'':ResultVar}{v v' v'':Value}(hfn:fn.results= #[r,r',r''])(h:JR P s r v)(h':JR P s r' v')(h'':JR P s r'' v'')(hR:∀w,aX B s.L w->R (.returned (.tuple #[v,v',v''])) w)(hD:B.D=[]:=by first|rfl|assumption):At B s (bodyPost P fn R .ret):=fun a w hr=>by
 refine⟨hr.df.trans hD,.tuple #[v,v',v''],?_,hR w hr.mem⟩;have h1:=h B a w hr;have h2:=h' B a w hr;have h3:=h'' B a w hr;unfold results;rw[hfn];simp only[List.mapM_toArray,List.mapM_cons,List.mapM_nil,Sem.run_bind,Sem.run_map,bind_pure_comp];cases r<;>cases r'<;>cases r''<;>simp only[Sem.run_bind,Sem.run_pure] at h1 h2 h3 ⊢ <;>simp_all
end Go.Via
namespace Go.Via
open Go
def I(z:Int):Value:= .agg #[.bool (decide (z<0)),.string (bH z.natAbs)]
def dm(q:Rat):ByteArray:=if q.den=1 then⟨#[]⟩ else bH q.den
def Q(q:Rat):Value:= .agg #[.bool (decide (q.num<0)),.string (bH q.num.natAbs),.bool false,.string (dm q)]
def ji(z:Int):Nat:=nb z.natAbs
def bY(q:Rat):Nat:=max (nb q.num.natAbs) (nb q.den)
def LD{a b:Int}{m n:Nat}(ha:ji a<=m)(hb:ji b<=n):ji (a+b)<=m+n+1:=by
 unfold ji at*;have h1:=gu (Int.natAbs_add_le a b);have h2:=Bf a.natAbs b.natAbs;omega
def lV{a b:Int}{m n:Nat}(ha:ji a<=m)(hb:ji b<=n):ji (a*b)<=m+n:=by
 unfold ji at*;rw[Int.natAbs_mul];have:=o6 a.natAbs b.natAbs;omega
def qbg{a:Int}{m:Nat}(ha:ji a<=m):ji (-a)<=m:=by unfold ji at*;rwa [Int.natAbs_neg]
def qmV{a b:Int}{m n:Nat}(ha:ji a<=m)(hb:ji b<=n):ji (a-b)<=m+n+1:=by
 rw[Int.sub_eq_add_neg];exact LD ha (qbg hb)
def Bq{a k:Nat}(h:nb a<=k):ji (a:Int)<=k:=by unfold ji;simpa using h
def nS{q:Rat}{m:Nat}(h:bY q<=m):ji q.num<=m:=by unfold ji bY at*;omega
def MW{q:Rat}{m:Nat}(h:bY q<=m):nb q.num.natAbs<=m:=by unfold bY at*;omega
def kT{q:Rat}{m:Nat}(h:bY q<=m):ji (q.den:Int)<=m:=by unfold ji bY at*;simp;omega
def MX{q:Rat}{m:Nat}(h:bY q<=m):nb q.den<=m:=by unfold bY at*;omega
def MZ(b:Int):b.sign.natAbs<=1:=by
 rcases Int.lt_trichotomy b 0 with h|h|h
 ·rw[Int.sign_eq_neg_one_of_neg h];simp
 ·subst h;simp
 ·rw[Int.sign_eq_one_of_pos h];simp
def vJ{n d:Int}{a b:Nat}(hn:ji n<=a)(hd:ji d<=b)(hb:1<=b):bY (Rat.divInt n d)<=max a b:=by
 unfold bY ji at*;rw[Rat.num_divInt,Rat.den_divInt];have h1:nb (d.sign*n/↑(d.gcd n)).natAbs<=nb n.natAbs:=by
  apply gu
  refine Nat.le_trans (Int.natAbs_ediv_le_natAbs _ _) ?_;rw[Int.natAbs_mul];have:=MZ d
  calc d.sign.natAbs*n.natAbs<=1*n.natAbs:=Nat.mul_le_mul_right _ this
   _=n.natAbs:=Nat.one_mul _
 have h2:nb (if d=0 then 1 else d.natAbs/d.gcd n)<=max 1 (nb d.natAbs):=by
  split
  ·exact Nat.le_trans (oh (k:=1) ae) ae
  ·exact Nat.le_trans (EZ _ _) ae
 omega
def LG(q:Rat):1<=bY q:=by
 unfold bY;have h:nb q.den≠0:=fun h=>q.den_nz (EY.1 h)
 omega
def qbh{a b:Rat}{m n:Nat}(ha:bY a<=m)(hb:bY b<=n):bY (a+b)<=m+n+1:=by
 have e:a+b=Rat.divInt (a.num*b.den+b.num*a.den) (a.den*b.den):=by
  conv=>lhs;rw[<-Rat.num_divInt_den a,<-Rat.num_divInt_den b]
  rw[Rat.divInt_add_divInt _ _ (by have:=a.den_nz;omega) (by have:=b.den_nz;omega)]
 have hm:=LG a;rw[e];have h1:ji (a.num*b.den+b.num*a.den)<=m+n+1:=by
  unfold ji;have h2:=gu (Int.natAbs_add_le (a.num*b.den) (b.num*a.den));have h3:=Bf (a.num*b.den).natAbs (b.num*a.den).natAbs;have h4:=lV (nS ha) (kT hb);have h5:=lV (nS hb) (kT ha);unfold ji at h4 h5;omega
 have h2:ji ((a.den:Int)*b.den)<=m+n:=lV (kT ha) (kT hb);have:=vJ h1 h2 ae;omega
def xC{a b:Rat}{m n:Nat}(ha:bY a<=m)(hb:bY b<=n):bY (a*b)<=m+n:=by
 have e:a*b=Rat.divInt (a.num*b.num) (a.den*b.den):=by
  conv=>lhs;rw[<-Rat.num_divInt_den a,<-Rat.num_divInt_den b]
  rw[Rat.divInt_mul_divInt]
 have hm:=LG a;rw[e];have:=vJ (lV (nS ha) (nS hb)) (lV (kT ha) (kT hb)) ae;omega
def qbi{a:Rat}{m:Nat}(ha:bY a<=m):bY (-a)<=m:=by
 unfold bY at*;simpa using ha
def DK{a b:Rat}{m n:Nat}(ha:bY a<=m)(hb:bY b<=n):bY (a-b)<=m+n+1:=by
 rw[Rat.sub_eq_add_neg];exact qbh ha (qbi hb)
def qmW{a:Rat}{m:Nat}(ha:bY a<=m):bY (a⁻¹)<=m:=by
 have hp:=LG a;rw[Rat.inv_def];have:=vJ (kT ha) (nS ha) ae;omega
def Gy{a b:Rat}{m n:Nat}(ha:bY a<=m)(hb:bY b<=n):bY (a/b)<=m+n:=by
 rw[Rat.div_def];exact xC ha (qmW hb)
def qmX{z:Int}{m:Nat}(h:ji z<=m)(hm:1<=m):bY (z:Rat)<=m:=by
 unfold bY ji at*;simp only[Rat.num_intCast,Rat.den_intCast];have:nb 1<=1:=oh ae;omega
def DL{z:Int}(h1: -255<=z)(h2:z<=255):ji z<=1:=by
 unfold ji;apply oh;omega
theorem ui(a b:ByteArray):(a==b)=decide (a=b):=by
 rw[beq_toListBytes,ByteArray.toList_eq,ByteArray.toList_eq,Bool.eq_iff_iff];cases a with|mk x=>cases b with|mk y=>
 cases x;cases y;simp
theorem LH(a b:Nat):(bH a==bH b)=decide (a=b):=by
 rw[ui,Bool.eq_iff_iff];simp[SQ]
theorem Bv:((⟨#[]⟩:ByteArray)==⟨#[]⟩)=true:=by rw[ui];simp
theorem nT(a:Nat):(bH a==⟨#[]⟩)=decide (a=0):=by
 rw[<-iy];exact LH a 0
theorem DN(a:Nat):(bH a !=⟨#[]⟩)=decide (a≠0):=by
 rw[bne,nT];simp
theorem VC(q:Rat):(dm q==⟨#[]⟩)=decide (q.den=1):=by
 unfold dm
 split
 ·rename_i h;rw[Bv];simp[h]
 ·rename_i h;rw[nT];simp[h,q.den_nz]
theorem qfI(p q:Rat):(dm p==dm q)=decide (p.den=q.den):=by
 unfold dm;have hp:=p.den_nz;have hq:=q.den_nz
 split
 ·rename_i h
  split
  ·rename_i h';rw[Bv];simp[h,h']
  ·rename_i h'
   have:((⟨#[]⟩:ByteArray)==bH q.den)=false:=by
    rw[<-iy,LH];simp;omega
   rw[this];simp[h];omega
 ·rename_i h
  split
  ·rename_i h';rw[nT];simp[h',hp,h]
  ·rw[LH]
theorem quN(x y:Int):((decide (x<0)==decide (y<0))&&(bH x.natAbs==bH y.natAbs))=decide (x=y):=by
 rw[LH,Bool.eq_iff_iff];simp only[Bool.and_eq_true,beq_iff_eq,decide_eq_true_eq,decide_eq_decide];omega
theorem quO(p q:Rat):((decide (p.num<0)==decide (q.num<0))&&(bH p.num.natAbs==bH q.num.natAbs)&&(dm p==dm q))=decide (p=q):=by
 rw[quN,qfI,Bool.eq_iff_iff];simp only[Bool.and_eq_true,decide_eq_true_eq];exact⟨fun⟨h1,h2⟩=>Rat.ext h1 h2,fun h=>h▸⟨rfl,rfl⟩⟩
theorem VD{n d:Int}(hd:0<d):Q (Rat.divInt n d)= .agg #[.bool (decide (n/(Int.gcd n d:Int)<0)),.string (bH (n/(Int.gcd n d:Int)).natAbs),.bool false,.string (if d/(Int.gcd n d:Int)=1 then⟨#[]⟩ else bH (d/(Int.gcd n d:Int)).natAbs)]:=by
 have h1:(Rat.divInt n d).num=n/(Int.gcd n d:Int):=by
  rw[Rat.num_divInt,Int.sign_eq_one_of_pos hd,Int.one_mul,Int.gcd_comm]
 have hg:0<(Int.gcd n d:Int):=by
  have:Int.gcd n d≠0:=(by rw[Ne,Int.gcd_eq_zero_iff];omega);omega
 have h2:((Rat.divInt n d).den:Int)=d/(Int.gcd n d:Int):=by
  rw[Rat.den_divInt,if_neg ae,Int.gcd_comm d n];rw[Int.natCast_ediv,Int.natAbs_of_nonneg ae]
 unfold Q dm;rw[h1,<-h2]
 congr 5
 by_cases h:(Rat.divInt n d).den=1
 ·rw[if_pos h,if_pos ae]
 ·rw[if_neg h,if_neg ae];simp
end Go.Via
