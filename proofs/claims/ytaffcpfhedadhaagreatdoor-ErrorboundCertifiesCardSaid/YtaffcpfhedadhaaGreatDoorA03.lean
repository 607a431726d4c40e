/-
  Part 3 (chapter 32): lemmas, walks. Each theorem states its own conditions.
-/
import Derived.Deep.LoopGhost
import Derived.Test.YtaffcpfhedadhaaGreatDoorA02
set_option linter.all false
set_option maxRecDepth 20000
set_option maxHeartbeats 20000000
namespace Go.Via
variable[Mo]
open Go Go.RowKit
structure TI where
 agg:Bool
 size:Nat
 flds:List (Nat×Nat)
def qi5:Option TypeDesc->Option Bool
 |some (.struct _)|some (.array _ _)=>some true
 |some _=>some false
 |none=>none
def Zg(P:Program):Option TypeDesc->List (Nat×Nat)
 |some (.struct fs)=>fs.toList.map fun f=>(f.offset,((P.info? f.type).map (·.size)).getD 0)
 |_=>[]
def dP(P:Program)(t:Nat)(i:TI):Bool:=
 (P.info? t).any (fun inf=>inf.size==i.size)&&(qi5 (P.underlying t)==some i.agg)&&(Zg P (P.underlying t)==i.flds)
def qc7{P:Program}{t:Nat}{i:TI}(h:dP P t i=true):∃inf,P.info? t=some inf∧inf.size=i.size:=by
 simp only[dP,Bool.and_eq_true,Option.any_eq_true] at h;obtain⟨⟨⟨inf,h1,h2⟩,_⟩,_⟩:=h;exact⟨inf,h1,by simpa using h2⟩
theorem qgP{P:Program}{t:Nat}{i:TI}(h:dP P t i=true)(w:World):(isAgg t).run P w= .ok i.agg w:=by
 simp only[dP,Bool.and_eq_true,beq_iff_eq] at h;obtain⟨⟨_,h1⟩,_⟩:=h;cases hu:P.underlying t with
 |none=>rw[hu] at h1;cases h1
 |some d=>
  unfold isAgg;rw[Sem.run_bind,run_underlying hu w];rw[hu] at h1;cases d<;>simp_all[qi5]
theorem oD{P:Program}{t:Nat}{i:TI}(h:dP P t i=true)(w:World):(sizeOf t).run P w= .ok i.size w:=by
 obtain⟨inf,h1,h2⟩:=qc7 h;simp[sizeOf,typeInfo,h1,h2]
def Zh{P:Program}{t:Nat}{i:TI}(h:dP P t i=true){j:Nat}{p:Nat×Nat}(hp:i.flds[j]? =some p):∃fs f,P.underlying t=some (.struct fs)∧fs[j]? =some f∧f.offset=p.1∧((P.info? f.type).map (·.size)).getD 0=p.2:=by
 simp only[dP,Bool.and_eq_true,beq_iff_eq] at h;obtain⟨_,h1⟩:=h;cases hu:P.underlying t with
 |none=>rw[hu] at h1;simp[Zg] at h1;rw[h1] at hp;simp at hp
 |some d=>
  rw[hu] at h1;cases d<;>simp only[Zg] at h1<;>first|(rw[<-h1] at hp;simp at hp;done)|skip
  rename_i fs
  rw[<-h1,List.getElem?_map] at hp;simp only[Option.map_eq_some_iff] at hp;obtain⟨f,h2,h3⟩:=hp;exact⟨fs,f,rfl,by simpa using h2,by rw[<-h3],by rw[<-h3]⟩
def aC.at(b:aC)(off:Nat):Value:= .pointer (b.base.map fun g=>⟨g,off,none⟩)
theorem ku(g off j:Nat):(⟨g,off,none⟩:Addr).add j=⟨g,off+j,none⟩:=by unfold Addr.add;split<;>simp_all
def aV.cell{B:Bs}{w:World}{L:List aC}(h:aV B L w){k:Nat}{b:aC}(hk:L[k]? =some b){j:Nat}{v:Value}(hj:b.cs[j]? =some v):
 ∃g,b.base=some g∧w.cell? ⟨g,j,none⟩=some v:=by
 obtain⟨h1,h2⟩:=h.blk k b hk;cases hb:b.base with
 |none=>rw[(h2 hb).1] at hj;simp at hj
 |some g=>
  obtain⟨cur,⟨e',fr,h3,_⟩,h4,h5⟩:=(h1 g hb).cells (.inr (fun e=>by rw[e] at hj;simp at hj));refine⟨g,rfl,?_⟩;rw[cell_of_row w g j cur e' fr h3];have hj':j<b.cs.length:=(List.getElem?_eq_some_iff.1 hj).1;rw[<-h5,List.getElem?_take,if_pos hj'] at hj
  simpa using hj
def aV.loadVar{P:Program}{B:Bs}{w:World}{L:List aC}(h:aV B L w){k:Nat}{b:aC}(hk:L[k]? =some b){T:Nat}{i:TI}(hi:dP P T i=true){off:Nat}{vs:List Value}{v:Value}
 (hvs:(b.cs.drop off).take i.size=vs)(hlen:vs.length=i.size)(hpos:0<i.size)(hv:(bif i.agg then some (.agg vs.toArray) else vs[0]?)=some v):
 ∃g,b.base=some g∧(Go.loadVar T ⟨g,off,none⟩).run P w= .ok v w:=by
 have hc:∀j u,vs[j]? =some u->b.cs[off+j]? =some u:=by
  intro j u hj;rw[<-hvs,List.getElem?_take] at hj
  split at hj
  ·simpa using hj
  ·cases hj
 obtain⟨u0,hu0⟩:∃u,vs[0]? =some u:=by rw[List.getElem?_eq_getElem (by omega)];exact⟨_,rfl⟩
 obtain⟨g,hg,h0⟩:=h.cell hk (hc 0 u0 hu0);refine⟨g,hg,?_⟩;have hcell:∀j u,vs[j]? =some u->w.cell? ((⟨g,off,none⟩:Addr).add j)=some u:=by
  intro j u hj;obtain⟨g',hg',h1⟩:=h.cell hk (hc j u hj);rw[hg] at hg';cases hg';rw[ku];exact h1
 unfold Go.loadVar;rw[Sem.run_bind,qgP hi w];simp only[Result.andThen_ok];cases ha:i.agg with
 |true=>
  rw[ha] at hv;simp only[cond_true,Option.some.injEq] at hv;subst hv;have:=run_loadCells_list (P:=P) w ⟨g,off,none⟩ vs hcell;rw[hlen] at this;simp[Sem.run_bind,oD hi w,this]
 |false=>
  rw[ha] at hv;simp only[cond_false] at hv;have:=hcell 0 v hv;simp only[ku,Nat.add_zero] at this;simp[this]
section
variable{P:Program}{o:Oper}{s:St}
def qgQ{x:Operand}{v:Value}(ho:o.op= .move x)(hx:ev s.t x=some v):DI P o s v:=fun B a w hr=>by
 simp[execOp,ho,hr.ev hx]
def Zi{x:Operand}{v:Value}(ho:o.op= .assign x)(hx:ev s.t x=some v):DI P o s v:=fun B a w hr=>by
 simp[execOp,ho,hr.ev hx]
def Zj{c x y:Operand}{b:Bool}{v:Value}(ho:o.op= .pick c x y)(hc:ev s.t c=some (.bool b))(hv:ev s.t (if b then x else y)=some v):DI P o s v:=fun B a w hr=>by
 have h1:=hr.ev hc;have h2:=hr.ev hv;cases b<;>simp[execOp,ho,h1,asBool]<;>simpa using h2
def Zk{T:Nat}{x:Operand}{i:TI}{b:aC}{off:Nat}{vs:List Value}{v:Value}(ho:o.op= .load T x)(k:Nat)(hk:s.L[k]? =some b)(hx:ev s.t x=some (b.at off))(hi:dP P T i=true)
 (hvs:(b.cs.drop off).take i.size=vs)(hlen:vs.length=i.size)(hpos:0<i.size)(hv:(bif i.agg then some (.agg vs.toArray) else vs[0]?)=some v):DI P o s v:=fun B a w hr=>by
 obtain⟨g,hg,h1⟩:=hr.mem.loadVar hk hi hvs hlen hpos hv;have h2:=hr.ev hx;unfold aC.at at h2;rw[hg] at h2;simp only[Option.map_some] at h2;simp[execOp,ho,h2,Instr.loadAt,Instr.sureAddr,h1]
end
def Tu(w:World)(g:Nat)(cur':Array Value){es:Array MapEntry}{c:Nat}(h:w.heap[g]? =some (.map es c)):(w.setRow g cur').heap[g]? =some (.map es c):=by
 have hlt:g<w.heap.size:=(Array.getElem?_eq_some_iff.1 h).1;have hv:w.heap[g]= .map es c:=(Array.getElem?_eq_some_iff.1 h).2;unfold World.setRow;rw[Array.getElem?_eq_getElem (by simpa using hlt),Array.getElem_modify];simp[hv]
theorem aV.set{B:Bs}{w:World}{L:List aC}(h:aV B L w){k:Nat}{b:aC}(hk:L[k]? =some b)(ho:b.own=true){g:Nat}(hg:b.base=some g)(cur':Array Value)(cs':List Value)
 (hn:cur'.size=b.n)(hc:cur'.toList.take cs'.length=cs'):aV B (L.set k {b with cs:=cs'}) (w.setRow g cur'):=by
 have h6:=((h.blk k b hk).1 g hg).2;have hkl:k<L.length:=(List.getElem?_eq_some_iff.1 hk).1;have base:∀(m:Nat) (bm:aC),(L.set k {b with cs:=cs'})[m]? =some bm->∃bm',L[m]? =some bm'∧bm'.base=bm.base∧bm'.own=bm.own∧bm'.e=bm.e:=by
  intro m bm hm
  by_cases e:k=m
  ·subst e;rw[List.getElem?_set_self hkl] at hm;cases hm;exact⟨b,hk,rfl,rfl,rfl⟩
  ·rw[List.getElem?_set_ne e] at hm;exact⟨bm,hm,rfl,rfl,rfl⟩
 refine⟨h.bel.one (h6 ho) rfl rfl rfl (by simp) (fun i hne=>setRow_other w g i _ (by omega)),fun j b' hj=>?_,fun i j g' bi bj hij hi hj hoi hgi hgj=>?_,?_⟩
 rotate_left 2
 ·refine(h.grp.step (w':=w.setRow g cur') fun g' _ hc=>setRow_other w g g' _ (fun e=>hc b (List.mem_of_getElem? hk) ho (by rw[hg,e]))).sub (fun c hc hn=>?_) (fun c hc hoc g' hgc=>?_)
  ·obtain⟨m,hm⟩:=List.mem_iff_getElem?.1 hc;obtain⟨c',c1,c2,c3,c4⟩:=base m c hm;exact .inr ⟨c',List.mem_of_getElem? c1,by rw[c2];exact hn,c4,fun h=>by rw[c3];exact h⟩
  ·obtain⟨m,hm⟩:=List.mem_iff_getElem?.1 hc;obtain⟨c',c1,c2,c3,c4⟩:=base m c hm;exact⟨c',List.mem_of_getElem? c1,by rw[c3];exact hoc,by rw[c2];exact hgc⟩
 ·by_cases e:k=j
  ·subst e;rw[List.getElem?_set_self hkl] at hj;cases hj;refine⟨fun g' hg'=>?_,fun hn'=>by rw[hg] at hn';cases hn'⟩
   rw[hg] at hg';cases hg';refine⟨?_,h6⟩;rcases((h.blk k b hk).1 g hg).1 with⟨cur,⟨e',fr,h3,hfr,hlt⟩,h4,h5⟩|⟨l,es,c,a1,a2,a3,a4,h3,a5⟩
   ·obtain⟨rfl,rfl⟩:=hfr ho;exact .inl ⟨cur',⟨_,_,setRow_heap w g cur cur' b.e (0,0) h3,fun _=>⟨rfl,rfl⟩,hlt⟩,hn,hc⟩
   ·have hcs:cs'=[]:=by
     have h7:cur'.toList=[]:=List.eq_nil_of_length_eq_zero (by rw[Array.length_toList,hn,a3]);rw[h7] at hc;simpa using hc.symm
    exact .inr ⟨l,es,c,a1,hcs,a3,a4,Tu w g cur' h3,a5⟩
  ·rw[List.getElem?_set_ne e] at hj;obtain⟨h1,h2⟩:=h.blk j b' hj;refine⟨fun g' hg'=>?_,h2⟩;have h8:=h1 g' hg';have hne:g'≠g:=fun e'=>h.apart k j g b b' e hk hj ho hg (by rw[hg',e'])
   exact h8.heap (setRow_other w g g' _ hne)
 ·obtain⟨bi',a1,a2,a3,_⟩:=base i bi hi;obtain⟨bj',c1,c2,c3,_⟩:=base j bj hj;exact h.apart i j g' bi' bj' hij a1 c1 (by rw[a3];exact hoi) (by rw[a2];exact hgi) (by rw[c2];exact hgj)
section
variable{P:Program}{o:Oper}{s:St}
def IE{X:Type}{nx:X->St}(h:∀(B:Bs) (a:Act) (w:World),kH B s a w->∃v w' x,(execOp a.eval o).run P w= .ok (.value v) w'∧kH B (nx x) (a.put o.dst v) w'):Eff P o s X nx:=fun B a w hr=>by
 obtain⟨v,w',x,h1,h2⟩:=h B a w hr;unfold Oper.wp;rw[h1];exact⟨x,h2⟩
def qi6{T:Nat}{x:Operand}{v:Value}(hT:T<cZ)(hd:∀d,o.dst=some d->d<s.nt)(ho:o.op= .box T x)(hx:ev s.t x=some v):
 Eff P o s Nat (fun g=>({s with L:=s.L++[⟨some g,T,v.cells.toList,v.cells.size,true⟩]}:St).put o.dst (.pointer (some ⟨g,0,none⟩))):=
 IE fun B a w hr=>⟨.pointer (some ⟨w.heap.size,0,none⟩),w.alloc (.cells v.cells T),w.heap.size,by simp[execOp,ho,hr.ev hx,Instr.box,newVar,newRow],hr.put hd (hr.mem.alloc T v.cells hT)⟩
def Xq{T:Nat}{z:Value}{tt:List (Nat×Value)}(hT:T<cZ)(ho:o.op= .alloc T)(hz:(P.info? T).bind (·.zero)=some z):yZ P tt o=some (T,z.cells):=by
 unfold yZ;rw[ho];dsimp only;rw[if_pos hT,hz];rfl
def DN{T:Nat}{x y:Operand}{i:TI}{b:aC}{off:Nat}{v:Value}(ho:o.op= .store T x y)(k:Nat)(hk:s.L[k]? =some b)(hown:b.own=true)(hx:ev s.t x=some (b.at off))(hb:b.base.isSome=true)
 (hy:ev s.t y=some v)(hi:dP P T i=true)(hsz:v.cells.size=i.size)(hpos:0<i.size)(hfit:off+i.size<=b.cs.length)(h1:(v.cells.toList.all fun u=>u.oneCell')=true):
 Zc P o s (s.L.set k {b with cs:=b.cs.take off++v.cells.toList++b.cs.drop (off+i.size)}):=fun B a w hr=>by
 obtain⟨g,hg⟩:=Option.isSome_iff_exists.1 hb;have h2:=hr.ev hx;unfold aC.at at h2;rw[hg] at h2;simp only[Option.map_some] at h2;obtain⟨cur,⟨e',fr,h3,hfr,_⟩,h4,h5⟩:=((hr.mem.blk k b hk).1 g hg).cells (.inr (fun e=>by rw[e] at hfit;simp at hfit;omega));obtain⟨rfl,rfl⟩:=hfr hown;have hlc:b.cs.length<=cur.size:=by
  have:=congrArg List.length h5;simp at this;omega
 have hvl:v.cells.toList.length=i.size:=(by simp[hsz]);have hst:=run_storeCells_at P g off b.e v.cells.toList 0 cur w h3 (by rw[hvl];omega) (fun u hu=>List.all_eq_true.1 h1 u hu);simp only[Nat.add_zero] at hst;have hrun:(execOp a.eval o).run P w= .ok .skip (w.setRow g (cur.toList.take off++v.cells.toList++cur.toList.drop (off+v.cells.toList.length)).toArray):=by
  simp only[execOp,ho,hr.ev hy,h2,Instr.storeAt,Instr.sureAddr,Sem.run_bind,Sem.run_pure,Result.andThen_ok];unfold Go.storeVar;simp only[Sem.run_bind,oD hi w,Result.andThen_ok,hsz,ne_eq,not_true,if_false,Sem.run_ite];simp[hst]
 refine⟨_,hrun,?_⟩;refine hr.mem.set hk hown hg _ _ ?_ ?_
 ·simp only[List.size_toArray,List.length_append,List.length_take,List.length_drop,Array.length_toList,hvl];rw[<-h4];simp only[Array.length_toList] at*;omega
 ·simp only[hvl];have hct:cur.toList=b.cs++cur.toList.drop b.cs.length:=by
   conv=>lhs;rw[<-List.take_append_drop b.cs.length cur.toList,h5]
  generalize hcl:cur.toList=cl at*
  generalize hr':cl.drop b.cs.length=rest at*
  subst hct;have e1:(b.cs++rest).take off=b.cs.take off:=by rw[List.take_append_of_le_length (by omega)]
  have e2:(b.cs++rest).drop (off+i.size)=b.cs.drop (off+i.size)++rest:=(by rw[List.drop_append_of_le_length hfit]);rw[e1,e2,<-List.append_assoc];exact List.take_left
end
end Go.Via
namespace Go.Via
variable[Mo]
open Go Go.RowKit
def At(B:Bs)(s:St)(X:Act->World->Prop):Prop:=∀(a:Act) (w:World),kH B s a w->X a w
section
variable{P:Program}{B:Bs}{s:St}{Q:Exit->Act->World->Prop}
def Tv{x y:Code}(h:At B s (x.wp P (Exit.then (y.wp P Q) Q))):At B s ((Code.seq x y).wp P Q):=fun a w hr=>wp_seq (h a w hr)
def x8{c:Operand}{x y:Code}{b:Bool}(hc:ev s.t c=some (.bool b))(h1:b=true->At B s (x.wp P Q))(h2:b=false->At B s (y.wp P Q)):At B s ((Code.cond c x y).wp P Q):=fun a w hr=>by
 have:=hr.ev hc;cases b
 ·exact wp_cond_false this (h2 rfl a w hr)
 ·exact wp_cond_true this (h1 rfl a w hr)
def Zl{c:Operand}{x y:Code}(hc:ev s.t c=some (.bool true))(h:At B s (x.wp P Q)):At B s ((Code.cond c x y).wp P Q):=fun a w hr=>wp_cond_true (hr.ev hc) (h a w hr)
def Zm{c:Operand}{x y:Code}(hc:ev s.t c=some (.bool false))(h:At B s (y.wp P Q)):At B s ((Code.cond c x y).wp P Q):=fun a w hr=>wp_cond_false (hr.ev hc) (h a w hr)
def qc8(h:At B s (Q .normal)):At B s (Code.skip.wp P Q):=fun a w hr=>wp_skip (h a w hr)
def qgR(h:At B s (Q .ret)):At B s (Code.ret.wp P Q):=fun a w hr=>wp_ret (h a w hr)
def Zn{id:Nat}{c:Code}(h:At B s (c.wp P (Exit.inBlock id Q))):At B s ((Code.block id c).wp P Q):=fun a w hr=>wp_block (h a w hr)
def qc9{id:Nat}(h:At B s (Q (.exit id))):At B s ((Code.exit id).wp P Q):=fun a w hr=>wp_exit (h a w hr)
def Xt{id:Nat}{l:List Oper}(h:aU P [] l.toArray l s (fun s'=>At B s' (Q .normal))):At B s ((Code.region id l.toArray false).wp P Q):=fun a w hr=>
 wp_region_lit (aU.sound h hr (fun s' a' w' h1 h2=>h1 a' w' h2))
def lV{id:Nat}{l:List Oper}(h:aU P [1000000] l.toArray l s (fun s'=>At B s' (Q .normal))):At B s ((Code.region id l.toArray false).wp P Q):=fun a w hr=>
 wp_region_lit (aU.sound h hr (fun s' a' w' h1 h2=>h1 a' w' h2))
def Qc{id:Nat}{l l':List Oper}(bl perm:List Nat)(hm:P.follows .mixedOrders=true)(hc:ve bl l.toArray perm=true)(hl:perm.map (fun i=>l.toArray.getD i default)=l')(hf:IC bl l.toArray s=true)
 (h:aU P bl l.toArray l' s (fun s'=>At B s' (Q .normal))):At B s ((Code.region id l.toArray true).wp P Q):=fun a w hr=>
 Zf (K:=fun s'=>At B s' (Q .normal)) perm hm hc hl hf h (fun s' a' w' h1 h2=>h1 a' w' h2) hr
def qda{ι:Type}{c:Code}(inv:ι->St)(μ:ι->Nat)(i₀:ι)(h₀:∀a w,kH B s a w->kH B (inv i₀) a w)
 (round:∀i,At B (inv i) (c.wp P (Exit.then (fun a' w'=>∃j,μ j<μ i∧kH B (inv j) a' w') Q))):At B s ((Code.loop c).wp P Q):=fun a w hr=>by
 refine wp_loop_ghost (fun n a w=>∃i,μ i=n∧kH B (inv i) a w) (μ i₀) ⟨i₀,rfl,h₀ a w hr⟩ ?_;rintro n a w ⟨i,rfl,hi⟩;refine wp_mono (round i a w hi) ?_;intro e a' w' hq;cases e with
 |normal=>obtain⟨j,h1,h2⟩:=hq;exact⟨μ j,h1,j,rfl,h2⟩
 |_=>exact hq
def kH.sub{t:List (Nat×Value)}{a:Act}{w:World}(hr:kH B s a w)(h:∀d v,look t d=some v->look s.t d=some v):kH B ⟨s.nt,t,s.L⟩ a w:=
 ⟨hr.df,hr.size,fun d v hd=>hr.tmp d v (h d v hd),hr.mem⟩
end
section
variable{P:Program}{bl:List Nat}{ops:Array Oper}{s:St}{K:St->Prop}{rest:List Oper}
def Oh(h:K s):aU P bl ops [] s K:=h
def fG{o:Oper}{v:Value}(hd:(match o.dst with|some d=>Nat.blt d s.nt|none=>true)=true)(hg:au ops o s.t=some true)(_hc:(jA o||(isAl o||isSto o))=false)(hq:DI P o (s.bk bl) v)
 (h:aU P bl ops rest (s.put o.dst v) K)(hp:y5 o=true->mZ P s.t o=some v:=by intro h;cases h):aU P bl ops (o::rest) s K:=
 ⟨fun d hd'=>by rw[hd'] at hd;simpa using hd,true,hg,.inr ⟨rfl,.inl ⟨by rw[Bool.or_eq_false_iff] at _hc;rw[_hc.2,Bool.and_false],v,⟨hq,fun _=>hp⟩,h⟩⟩⟩
def qgS{o:Oper}{v:Value}(hd:(match o.dst with|some d=>Nat.blt d s.nt|none=>true)=true)(hg:au ops o s.t=some true)(ha:(isAl o||isSto o)=false)(hq:DI P o (s.bk bl) v)
 (h:aU P bl ops rest (s.put o.dst v) K)(hp:y5 o=true->mZ P s.t o=some v:=by intro h;cases h):aU P bl ops (o::rest) s K:=
 ⟨fun d hd'=>by rw[hd'] at hd;simpa using hd,true,hg,.inr ⟨rfl,.inl ⟨by rw[ha,Bool.and_false],v,⟨hq,fun _=>hp⟩,h⟩⟩⟩
def qgT{o:Oper}(hd:(match o.dst with|some d=>Nat.blt d s.nt|none=>true)=true)(hg:au ops o s.t=some false)(h:aU P bl ops rest (s.put o.dst undef) K):aU P bl ops (o::rest) s K:=
 ⟨fun d hd'=>by rw[hd'] at hd;simpa using hd,false,hg,.inl ⟨rfl,h⟩⟩
def DR{o:Oper}{X:Type}{res:X->Value}{new:X->List aC}(hd:(match o.dst with|some d=>Nat.blt d s.nt|none=>true)=true)(hg:au ops o s.t=some true)(hc:jA o=true)(hq:Oa P o s X res new)(hF:HY bl=true->DJ P o s X res new∧Nonempty X)
 (h:∀x,aU P bl ops rest (({s with L:=s.L++new x}:St).put o.dst (res x)) K):aU P bl ops (o::rest) s K:=
 ⟨fun d hd'=>by rw[hd'] at hd;simpa using hd,true,hg,.inr ⟨rfl,.inr (.inl ⟨hc,X,res,new,hq,hF,h⟩)⟩⟩
def LJ{o:Oper}{X:Type}{nx:X->St}(hd:(match o.dst with|some d=>Nat.blt d s.nt|none=>true)=true)(hg:au ops o s.t=some true)(hm:(iI o||isAsg o||(isAl o||isSto o))=false)(hm':((isSto o||isME o)&&E8 bl)=false)(hq:(∀d,o.dst=some d->d<s.nt)->Eff P o s X nx)
 (h:∀x,aU P bl ops rest (nx x) K):aU P bl ops (o::rest) s K:=
 have hd':∀d,o.dst=some d->d<s.nt:=fun d hd'=>by rw[hd'] at hd;simpa using hd
 ⟨hd',true,hg,.inr ⟨rfl,.inr (.inr (.inl ⟨by rw[Bool.or_eq_false_iff,Bool.or_eq_false_iff] at hm;simp[Ob,hm.1.1,hm.1.2],by rw[Bool.or_eq_false_iff] at hm;rw[hm.2,Bool.and_false],by rw[hm',Bool.and_false],X,nx,hq hd',h⟩))⟩⟩
def Zo{o:Oper}{X:Type}{nx:X->St}(hd:(match o.dst with|some d=>Nat.blt d s.nt|none=>true)=true)(hg:au ops o s.t=some true)(hb:H5 bl=true)(hq:(∀d,o.dst=some d->d<s.nt)->Eff P o s X nx)
 (h:∀x,aU P bl ops rest (nx x) K):aU P bl ops (o::rest) s K:=
 have hd':∀d,o.dst=some d->d<s.nt:=fun d hd'=>by rw[hd'] at hd;simpa using hd
 ⟨hd',true,hg,.inr ⟨rfl,.inr (.inr (.inl ⟨by rw[hb];rfl,by rw[show bl=[1000000] by simpa[H5] using hb];rfl,by rw[hb];rfl,X,nx,hq hd',h⟩))⟩⟩
def U8{o:Oper}{L':List aC}(hg:au ops o s.t=some true)(hs:isSto o=true)(hd:o.dst=none)(he:Zc P o s L')(hb:E8 bl=true->blank bl L'=blank bl s.L)(h:aU P bl ops rest {s with L:=L'} K):aU P bl ops (o::rest) s K:=
 ⟨fun d hd'=>(by rw[hd] at hd';cases hd'),true,hg,.inr ⟨rfl,.inr (.inr (.inr (.inl ⟨hs,hd,L',he,hb,h⟩)))⟩⟩
def Zp{o:Oper}{e:TypeId}{cs:Array Value}(hd:(match o.dst with|some d=>Nat.blt d s.nt|none=>true)=true)(hg:au ops o s.t=some true)(ha:isAl o=true)(hq:yZ P s.t o=some (e,cs))
 (h:∀g,aU P bl ops rest (({s with L:=s.L++[alB g e cs]}:St).put o.dst (alV o g)) K):aU P bl ops (o::rest) s K:=
 ⟨fun d hd'=>by rw[hd'] at hd;simpa using hd,true,hg,.inr ⟨rfl,.inr (.inr (.inr (.inr (.inl ⟨ha,e,cs,hq,h⟩))))⟩⟩
end
def iM(P:Program)(f:Nat):Bool:=match P.funcs[f]? with
 |some fn=>fn.body.isSome&& !(fn.name== "runtime.NumGoroutine")
 |none=>false
theorem pX{P:Program}{f:Nat}(hf:iM P f=true)(a:Act){o:Oper}{x:Operand}{args:Array Operand}{ts:Array TypeId}(ho:o.op= .call {callee:= .value x,args:=args,argTypes:=ts})(hx:a.eval x= .func (.func f) #[] #[]){vs:Array Value}(hv:args.map a.eval=vs)(w:World):
 (execOp a.eval o).run P w= .ok (.enter f vs) w:=by
 unfold iM at hf;cases hq:P.funcs[f]? with
 |none=>rw[hq] at hf;cases hf
 |some fn=>
  rw[hq] at hf;simp only[Bool.and_eq_true,Bool.not_eq_true'] at hf;obtain⟨h1,h2⟩:=hf;have h3:fn.body≠none:=by intro hb;rw[hb] at h1;cases h1
  have h4:¬fn.name= "runtime.NumGoroutine" :=(by simpa using h2);simp[execOp,ho,resolve,hx,Deferred.ofValue,invoke,callFunc,hv,hq,h4,h3]
def aH(P:Program)(f:Nat)(args:Array Value)(v:Value):Prop:=
 iM P f=true∧∀w,Calls P f args w fun e w'=>e= .returned v∧eG w.heap.size w w'
theorem nJ{B:Bs}{s:St}{a:Act}{w:World}(hr:kH B s a w):∀{l:List Operand} {vs:List Value},l.map (ev s.t)=vs.map some->l.map a.eval=vs
 |[],vs,h=>by cases vs<;>simp_all
 |x::l,vs,h=>by
  cases vs with
  |nil=>simp at h
  |cons v vs=>
   simp only[List.map_cons,List.cons.injEq] at h;rw[List.map_cons,hr.ev h.1,nJ hr h.2]
def qgU{P:Program}{o:Oper}{s:St}{f:Nat}{args:List Operand}{ts:Array TypeId}{vs:List Value}{v:Value}(ho:o.op= .call {callee:= .value (.func f),args:=args.toArray,argTypes:=ts})
 (hv:args.map (ev s.t)=vs.map some)(hc:aH P f vs.toArray v):Oa P o s Unit (fun _=>v) (fun _=>[]):=fun B a w hr=>by
 refine⟨f,vs.toArray,pX hc.1 a ho rfl (by simp[nJ hr hv]) w,(hc.2 w).mono ?_⟩;rintro e w' ⟨rfl,hw⟩;exact⟨(),rfl,by simpa using hr.mem.same hw⟩
def qdb{P:Program}{o:Oper}{s:St}{f:Nat}{args:List Operand}{ts:Array TypeId}{vs:List Value}{v:Value}(ho:o.op= .call {callee:= .value (.func f),args:=args.toArray,argTypes:=ts})
 (hv:args.map (ev s.t)=vs.map some)(hc:aH P f vs.toArray v):DJ P o s Unit (fun _=>v) (fun _=>[]):=fun B a w hr=>by
 refine⟨f,vs.toArray,pX hc.1 a ho rfl (by simp[nJ hr hv]) w,(hc.2 w).mono ?_⟩;rintro e w' ⟨rfl,hw⟩;exact⟨(),rfl,⟨.of hw,fun k b hk=>by simp at hk,(fun i j g bi bj hij hi=>by simp at hi),lU.nil _ _⟩,fun b hb=>by cases hb⟩
def qfU{P:Program}{o:Oper}{s:St}{f:Nat}{args:List Operand}{ts:Array TypeId}{vs:List Value}{X:Type}{res:X->Value}{new:X->List aC}(ho:o.op= .call {callee:= .value (.func f),args:=args.toArray,argTypes:=ts})
 (hv:args.map (ev s.t)=vs.map some)(hf:iM P f=true)(hc:∀(B:Bs) (w:World),aV B s.L w->Calls P f vs.toArray w fun e w'=>∃x,e= .returned (res x)∧aV B (s.L++new x) w'):Oa P o s X res new:=fun B a w hr=>
 ⟨f,vs.toArray,pX hf a ho rfl (by simp[nJ hr hv]) w,hc B w hr.mem⟩
def qgV{P:Program}{o:Oper}{s:St}{f:Nat}{args:List Operand}{ts:Array TypeId}{vs:List Value}{X:Type}{res:X->Value}{new:X->List aC}(ho:o.op= .call {callee:= .value (.func f),args:=args.toArray,argTypes:=ts})
 (hv:args.map (ev s.t)=vs.map some)(hf:iM P f=true)(hc:∀(B:Bs) (w:World),aV B s.L w->Calls P f vs.toArray w fun e w'=>∃x,e= .returned (res x)∧aV w (new x) w'∧∀b∈new x,b.own=true):DJ P o s X res new:=fun B a w hr=>
 ⟨f,vs.toArray,pX hf a ho rfl (by simp[nJ hr hv]) w,hc B w hr.mem⟩
def Zq:Nat->List Value->List (Nat×Value)
 |_,[]=>[]
 |k,v::l=>(k,v)::Zq (k+1) l
def Xu{l:List Value}:∀{k d:Nat} {v:Value},look (Zq k l) d=some v->k<=d∧l[d-k]? =some v:=by
 induction l with
 |nil=>intro k d v h;cases h
 |cons x l ih=>
  intro k d v h
  by_cases e:k=d
  ·subst e;rw[Zq,dR] at h;cases h;simp
  ·rw[Zq,bY e] at h;obtain⟨h1,h2⟩:=ih h;refine⟨by omega,?_⟩;rw[show d-k=(d-(k+1))+1 by omega,List.getElem?_cons_succ];exact h2
theorem aV.nil(w:World):aV w [] w:=⟨.of (eG.refl _ _),fun k b hk=>by simp at hk,(fun i j g bi bj hij hi=>by simp at hi),lU.nil _ _⟩
def sW{P:Program}{f:Nat}{fn:Func}{c:Code}{args:List Value}{B:Bs}{w:World}{R:Ending->World->Prop}{L:List aC}(hf:P.funcs[f]? =some fn)(hb:fn.body=some c)(hn:args.length<=fn.ntmps)(hL:aV B L w)
 (h:At B ⟨fn.ntmps,Zq 0 args,L⟩ (c.wp P (bodyPost P fn R)))(hD:B.D=[]:=by first|rfl|assumption):Calls P f args.toArray w R:=by
 refine calls_of_wp hf hb (h _ _ ⟨hD.symm,?_,fun d v hd=>?_,hL⟩)
 ·simp;omega
 ·obtain⟨_,h2⟩:=Xu hd;simp only[Nat.sub_zero] at h2;have hlt:=(List.getElem?_eq_some_iff.1 h2).1;simp only[List.size_toArray];rw[Array.getElem?_append_left (by simpa using hlt)]
  simpa using h2
def Gs(P:Program)(s:St)(r:ResultVar)(v:Value):Prop:=∀(B:Bs) (a:Act) (w:World),kH B s a w->
 (match r with| .tmp t=>pure (a.tmps.getD t undef)| .cell p t=>do Go.loadVar t (<-asAddr (a.tmps.getD p undef)):Sem Value).run P w= .ok v w
def aj{P:Program}{s:St}{t:Nat}{v:Value}(h:look s.t t=some v):Gs P s (.tmp t) v:=fun B a w hr=>by
 have:=hr.tmp t v h;simp[this]
def bn{P:Program}{s:St}{p T:Nat}{b:aC}{i:TI}{vs:List Value}{v:Value}(k:Nat)(hk:s.L[k]? =some b)(h:look s.t p=some (b.at 0))(hi:dP P T i=true)(hvs:b.cs.take i.size=vs)(hlen:vs.length=i.size)(hpos:0<i.size)
 (hv:(bif i.agg then some (.agg vs.toArray) else vs[0]?)=some v):Gs P s (.cell p T) v:=fun B a w hr=>by
 have h1:=hr.tmp p _ h;obtain⟨g,hg,h2⟩:=hr.mem.loadVar (P:=P) hk hi (off:=0) (by simpa using hvs) hlen hpos hv;unfold aC.at at h1;rw[hg] at h1;simp only[Option.map_some] at h1;simp[h1,asAddr,h2]
def aF{P:Program}{B:Bs}{fn:Func}{R:Ending->World->Prop}{s:St}{r:ResultVar}{v:Value}(hfn:fn.results= #[r])(h:Gs P s r v)(hR:∀w,aV B s.L w->R (.returned v) w)(hD:B.D=[]:=by first|rfl|assumption):At B s (bodyPost P fn R .ret):=fun a w hr=>by
 refine⟨hr.df.trans hD,v,?_,hR w hr.mem⟩;have:=h B a w hr;cases r with
 |tmp t=>simp only[Sem.run_pure] at this;simp[results,hfn];simpa using this
 |cell p T=>
  simp only[Sem.run_bind] at this;simp only[results,hfn];simp[Sem.run_bind,Result.andThen] at this ⊢
  split at this<;>simp_all
def bF{P:Program}{B:Bs}{fn:Func}{R:Ending->World->Prop}{s:St}{r r':ResultVar}{v v':Value}(hfn:fn.results= #[r,r'])(h:Gs P s r v)(h':Gs P s r' v')(hR:∀w,aV B s.L w->R (.returned (.tuple #[v,v'])) w)(hD:B.D=[]:=by first|rfl|assumption):At B s (bodyPost P fn R .ret):=fun a w hr=>by
 refine⟨hr.df.trans hD,.tuple #[v,v'],?_,hR w hr.mem⟩;have h1:=h B a w hr;have h2:=h' B a w hr;unfold results;rw[hfn];simp only[List.mapM_toArray,List.mapM_cons,List.mapM_nil,Sem.run_bind,Sem.run_map,bind_pure_comp];cases r<;>cases r'<;>simp only[Sem.run_bind,Sem.run_pure] at h1 h2 ⊢ <;>simp_all
def x9{P:Program}{B:Bs}{fn:Func}{R:Ending->World->Prop}{s:St}{r r' r'':ResultVar}{v v' v'':Value}(hfn:fn.results= #[r,r',r''])(h:Gs P s r v)(h':Gs P s r' v')(h'':Gs P s r'' v'')(hR:∀w,aV B s.L w->R (.returned (.tuple #[v,v',v''])) w)(hD:B.D=[]:=by first|rfl|assumption):At B s (bodyPost P fn R .ret):=fun a w hr=>by
 refine⟨hr.df.trans hD,.tuple #[v,v',v''],?_,hR w hr.mem⟩;have h1:=h B a w hr;have h2:=h' B a w hr;have h3:=h'' B a w hr;unfold results;rw[hfn];simp only[List.mapM_toArray,List.mapM_cons,List.mapM_nil,Sem.run_bind,Sem.run_map,bind_pure_comp];cases r<;>cases r'<;>cases r''<;>simp only[Sem.run_bind,Sem.run_pure] at h1 h2 h3 ⊢ <;>simp_all
end Go.Via
namespace Go.Via
variable[Mo]
open Go Go.RowKit
section
variable{P:Program}{bl:List Nat}{ops:Array Oper}{K:St->Prop}{rest:List Oper}{nt:Nat}{t:List (Nat×Value)}{L:List aC}{d:Nat}{ty:TypeId}{pos:String}{af:Array Edge}{g:Option (Nat×Bool)}
def qgW{x:Operand}{v:Value}(hd:Nat.blt d nt=true)(hg:au ops ⟨some d,.move x,ty,pos,af,g⟩ t=some true)(hx:ev t x=some v)(h:aU P bl ops rest ⟨nt,(d,v)::t,L⟩ K):
 aU P bl ops (⟨some d,.move x,ty,pos,af,g⟩::rest) ⟨nt,t,L⟩ K:=fG hd hg rfl (qgQ rfl hx) h (fun _=>hx)
def Tz{x:Operand}{v:Addr}(hd:Nat.blt d nt=true)(hg:au ops ⟨some d,.nilCheck x,ty,pos,af,g⟩ t=some true)(hx:ev t x=some (.pointer (some v)))(h:aU P bl ops rest ⟨nt,(d,.pointer (some v))::t,L⟩ K):
 aU P bl ops (⟨some d,.nilCheck x,ty,pos,af,g⟩::rest) ⟨nt,t,L⟩ K:=fG hd hg rfl (fun B a w hr=>by simp[execOp,hr.ev hx]) h
def IG{x:Operand}{v:Value}(hd:Nat.blt d nt=true)(hg:au ops ⟨some d,.assign x,ty,pos,af,g⟩ t=some true)(hx:ev t x=some v)(h:aU P bl ops rest ⟨nt,(d,v)::t,L⟩ K):
 aU P bl ops (⟨some d,.assign x,ty,pos,af,g⟩::rest) ⟨nt,t,L⟩ K:=fG hd hg rfl (Zi rfl hx) h
def qdc{c x y:Operand}{v:Value}(hd:Nat.blt d nt=true)(hg:au ops ⟨some d,.pick c x y,ty,pos,af,g⟩ t=some true)(hc:ev t c=some (.bool true))(hx:ev t x=some v)(h:aU P bl ops rest ⟨nt,(d,v)::t,L⟩ K):
 aU P bl ops (⟨some d,.pick c x y,ty,pos,af,g⟩::rest) ⟨nt,t,L⟩ K:=fG hd hg rfl (Zj (b:=true) rfl hc hx) h
def qdd{c x y:Operand}{v:Value}(hd:Nat.blt d nt=true)(hg:au ops ⟨some d,.pick c x y,ty,pos,af,g⟩ t=some true)(hc:ev t c=some (.bool false))(hx:ev t y=some v)(h:aU P bl ops rest ⟨nt,(d,v)::t,L⟩ K):
 aU P bl ops (⟨some d,.pick c x y,ty,pos,af,g⟩::rest) ⟨nt,t,L⟩ K:=fG hd hg rfl (Zj (b:=false) rfl hc hx) h
def aI{T:Nat}{x:Operand}{i:TI}{b:aC}{v:Value}(k off:Nat)(vs:List Value)(hd:Nat.blt d nt=true)(hg:au ops ⟨some d,.load T x,ty,pos,af,g⟩ t=some true)(hk:(blank bl L)[k]? =some b)(hx:ev t x=some (b.at off))(hi:dP P T i=true)
 (hvs:(b.cs.drop off).take i.size=vs)(hlen:vs.length=i.size)(hpos:Nat.blt 0 i.size=true)(hv:(bif i.agg then some (.agg vs.toArray) else vs[0]?)=some v)(h:aU P bl ops rest ⟨nt,(d,v)::t,L⟩ K):
 aU P bl ops (⟨some d,.load T x,ty,pos,af,g⟩::rest) ⟨nt,t,L⟩ K:=fG hd hg rfl (Zk rfl k hk hx hi hvs hlen (by simpa using hpos) hv) h
def qld{o:Oper}(hdst:o.dst=some d)(hd:Nat.blt d nt=true)(hg:au ops o t=some false)(h:aU P bl ops rest ⟨nt,(d,undef)::t,L⟩ K):aU P bl ops (o::rest) ⟨nt,t,L⟩ K:=
 qgT (by rw[hdst];exact hd) hg (by rw[hdst];exact h)
def qfV{T:Nat}{x:Operand}{v:Value}(cs:List Value)(n:Nat)(mk:Nat->List aC)(hd:Nat.blt d nt=true)(hg:au ops ⟨some d,.box T x,ty,pos,af,g⟩ t=some true)(hx:ev t x=some v)(hcs:v.cells.toList=cs)(hn:v.cells.size=n)
 (hL:∀b,L++[⟨some b,T,cs,n,true⟩]=mk b)(h:∀b,aU P bl ops rest ⟨nt,(d,.pointer (some ⟨b,0,none⟩))::t,mk b⟩ K)(hT:Nat.blt T cZ=true:=by rfl):aU P bl ops (⟨some d,.box T x,ty,pos,af,g⟩::rest) ⟨nt,t,L⟩ K:=
 LJ hd hg rfl rfl (fun hd'=>qi6 (by simpa using hT) hd' rfl hx) fun b=>by
  subst hcs;subst hn;have:=h b;rw[<-hL b] at this;exact this
def U9{T:Nat}{z:Value}(cs:List Value)(n:Nat)(mk:Nat->List aC)(hd:Nat.blt d nt=true)(hg:au ops ⟨some d,.alloc T,ty,pos,af,g⟩ t=some true)(hz:(P.info? T).bind (·.zero)=some z)(hcs:z.cells.toList=cs)(hn:z.cells.size=n)
 (hL:∀b,L++[⟨some b,T,cs,n,true⟩]=mk b)(h:∀b,aU P bl ops rest ⟨nt,(d,.pointer (some ⟨b,0,none⟩))::t,mk b⟩ K)(hT:Nat.blt T cZ=true:=by rfl):aU P bl ops (⟨some d,.alloc T,ty,pos,af,g⟩::rest) ⟨nt,t,L⟩ K:=
 Zp (e:=T) (cs:=z.cells) hd hg rfl (Xq (by simpa using hT) rfl hz) fun b=>by
  subst hcs;subst hn;have:=h b;rw[<-hL b] at this;exact this
def oO(hbl:E8 bl=false){T:Nat}{x y:Operand}{i:TI}{gg e n:Nat}{cs:List Value}{v:Value}(k off:Nat)(L':List aC)(cs':List Value)(hg:au ops ⟨none,.store T x y,ty,pos,af,g⟩ t=some true)(hk:L[k]? =some ⟨some gg,e,cs,n,true⟩)(hx:ev t x=some (.pointer (some ⟨gg,off,none⟩)))
 (hy:ev t y=some v)(hi:dP P T i=true)(hsz:v.cells.size=i.size)(hfit:Nat.ble (off+i.size) cs.length=true)(h1:(v.cells.toList.all fun u=>u.oneCell')=true)(hcs:cs.take off++v.cells.toList++cs.drop (off+i.size)=cs')(hL:L.set k ⟨some gg,e,cs',n,true⟩=L')
 (h:aU P bl ops rest ⟨nt,t,L'⟩ K)(hpos:Nat.blt 0 i.size=true:=by rfl):aU P bl ops (⟨none,.store T x y,ty,pos,af,g⟩::rest) ⟨nt,t,L⟩ K:=
 U8 hg rfl rfl (by
 subst hcs;subst hL;exact DN (s:=⟨nt,t,L⟩) rfl k hk rfl (by rw[hx];rfl) rfl hy hi hsz (by simpa using hpos) (by simpa using hfit) h1) (fun h2=>by rw[hbl] at h2;cases h2) h
def qU{T:Nat}{x y:Operand}{i:TI}{gg e n:Nat}{cs:List Value}{v:Value}(k off:Nat)(L':List aC)(cs':List Value)(hg:au ops ⟨none,.store T x y,ty,pos,af,g⟩ t=some true)(hk:L[k]? =some ⟨some gg,e,cs,n,true⟩)(hx:ev t x=some (.pointer (some ⟨gg,off,none⟩)))
 (hy:ev t y=some v)(hi:dP P T i=true)(hsz:v.cells.size=i.size)(hfit:Nat.ble (off+i.size) cs.length=true)(h1:(v.cells.toList.all fun u=>u.oneCell')=true)(hcs:cs.take off++v.cells.toList++cs.drop (off+i.size)=cs')(hL:L.set k ⟨some gg,e,cs',n,true⟩=L')(hb:blank bl L'=blank bl L)
 (h:aU P bl ops rest ⟨nt,t,L'⟩ K)(hpos:Nat.blt 0 i.size=true:=by rfl):aU P bl ops (⟨none,.store T x y,ty,pos,af,g⟩::rest) ⟨nt,t,L⟩ K:=
 U8 hg rfl rfl (by
 subst hcs;subst hL;exact DN (s:=⟨nt,t,L⟩) rfl k hk rfl (by rw[hx];rfl) rfl hy hi hsz (by simpa using hpos) (by simpa using hfit) h1) (fun _=>hb) h
def dL{f:Nat}{args:List Operand}{ts:Array TypeId}(vs:List Value){v:Value}(hd:Nat.blt d nt=true)(hg:au ops ⟨some d,.call {callee:= .value (.func f),args:=args.toArray,argTypes:=ts},ty,pos,af,g⟩ t=some true)
 (hv:args.map (ev t)=vs.map some)(hc:aH P f vs.toArray v)(h:aU P bl ops rest ⟨nt,(d,v)::t,L⟩ K):
 aU P bl ops (⟨some d,.call {callee:= .value (.func f),args:=args.toArray,argTypes:=ts},ty,pos,af,g⟩::rest) ⟨nt,t,L⟩ K:=
 DR hd hg rfl (qgU (s:=⟨nt,t,L⟩) rfl hv hc) (fun _=>⟨qdb (s:=⟨nt,t,L⟩) rfl hv hc,⟨()⟩⟩) fun _=>by
  have:L++([]:List aC)=L:=List.append_nil L;show aU P bl ops rest ⟨nt,(d,v)::t,L++[]⟩ K;rw[this];exact h
theorem Zr{T:Nat}(hT:P.underlying T=some .bool)(m n:Bool)(w:World):(binOp .eql T (.bool m) (.bool n)).run P w= .ok (.bool (m==n)) w:=by
 have:=run_equalIn_bool w 9999 T m n hT;simp only[binOp,Op.equal,Op.maxDepth,Sem.run_bind,this,Result.andThen_ok,Sem.run_pure]
theorem Zt{T:Nat}(hT:P.underlying T=some .bool)(m n:Bool)(w:World):(binOp .neq T (.bool m) (.bool n)).run P w= .ok (.bool (m !=n)) w:=by
 have:=run_equalIn_bool w 9999 T m n hT;simp only[binOp,Op.equal,Op.maxDepth,Sem.run_bind,this,Result.andThen_ok,Sem.run_pure]
 rfl
section
variable{x y:Operand}(hd:Nat.blt d nt=true)
def qi7{T:Nat}{b:Bool}(hd:Nat.blt d nt=true)(hg:au ops ⟨some d,.unOp .not T x,ty,pos,af,g⟩ t=some true)(hx:ev t x=some (.bool b))(h:aU P bl ops rest ⟨nt,(d,.bool (!b))::t,L⟩ K):
 aU P bl ops (⟨some d,.unOp .not T x,ty,pos,af,g⟩::rest) ⟨nt,t,L⟩ K:=
 fG hd hg rfl (fun B a w hr=>by simp[execOp,hr.ev hx,Op.unary]) h
def Ff{i:Nat}{vs:List Value}{v:Value}(hd:Nat.blt d nt=true)(hg:au ops ⟨some d,.extract x i,ty,pos,af,g⟩ t=some true)(hx:ev t x=some (.tuple vs.toArray))(hv:vs[i]? =some v)(h:aU P bl ops rest ⟨nt,(d,v)::t,L⟩ K):
 aU P bl ops (⟨some d,.extract x i,ty,pos,af,g⟩::rest) ⟨nt,t,L⟩ K:=
 fG hd hg rfl (fun B a w hr=>by simp[execOp,hr.ev hx,Instr.extract,hv]) h (fun _=>by unfold mZ;simp[hx,hv])
def Zu{op:BinOp}{T U:Nat}{k:IntKind}{m n:Int}{r:Bool}(hd:Nat.blt d nt=true)(hg:au ops ⟨some d,.binOp op T x y U,ty,pos,af,g⟩ t=some true)(hx:ev t x=some (.int k m))(hy:ev t y=some (.int k n))
 (hr:(match op with| .eql=>some (m==n)| .neq=>some (m !=n)| .lss=>some (decide (m<n))| .leq=>some (decide (m<=n))| .gtr=>some (decide (n<m))| .geq=>some (decide (n<=m))|_=>none)=some r)(h:aU P bl ops rest ⟨nt,(d,.bool r)::t,L⟩ K):
 aU P bl ops (⟨some d,.binOp op T x y U,ty,pos,af,g⟩::rest) ⟨nt,t,L⟩ K:=
 fG hd hg rfl (fun B a w hrel=>by
 have h1:=hrel.ev hx;have h2:=hrel.ev hy;cases op<;>simp at hr<;>subst hr<;>simp[execOp,h1,h2,eqGuard,binOp,Op.intCmp]) h
def AA{T U:Nat}{m n:Bool}(hd:Nat.blt d nt=true)(hT:P.underlying T=some .bool)(hg:au ops ⟨some d,.binOp .eql T x y U,ty,pos,af,g⟩ t=some true)(hx:ev t x=some (.bool m))(hy:ev t y=some (.bool n))
 (h:aU P bl ops rest ⟨nt,(d,.bool (m==n))::t,L⟩ K):aU P bl ops (⟨some d,.binOp .eql T x y U,ty,pos,af,g⟩::rest) ⟨nt,t,L⟩ K:=
 fG hd hg rfl (fun B a w hrel=>by
 simp[execOp,hrel.ev hx,hrel.ev hy,eqGuard,Zr hT]) h
def oG{T U:Nat}{m n:Bool}(hd:Nat.blt d nt=true)(hT:P.underlying T=some .bool)(hg:au ops ⟨some d,.binOp .neq T x y U,ty,pos,af,g⟩ t=some true)(hx:ev t x=some (.bool m))(hy:ev t y=some (.bool n))
 (h:aU P bl ops rest ⟨nt,(d,.bool (m !=n))::t,L⟩ K):aU P bl ops (⟨some d,.binOp .neq T x y U,ty,pos,af,g⟩::rest) ⟨nt,t,L⟩ K:=
 fG hd hg rfl (fun B a w hrel=>by
 simp[execOp,hrel.ev hx,hrel.ev hy,eqGuard,Zt hT]) h
def Zv{T U:Nat}{m n:ByteArray}(hd:Nat.blt d nt=true)(hg:au ops ⟨some d,.binOp .eql T x y U,ty,pos,af,g⟩ t=some true)(hx:ev t x=some (.string m))(hy:ev t y=some (.string n))
 (h:aU P bl ops rest ⟨nt,(d,.bool (m==n))::t,L⟩ K):aU P bl ops (⟨some d,.binOp .eql T x y U,ty,pos,af,g⟩::rest) ⟨nt,t,L⟩ K:=
 fG hd hg rfl (fun B a w hrel=>by
 simp[execOp,hrel.ev hx,hrel.ev hy,eqGuard,binOp,Op.stringOp,beq_toListBytes]) h
def Zw{T U:Nat}{m n:ByteArray}(hd:Nat.blt d nt=true)(hg:au ops ⟨some d,.binOp .neq T x y U,ty,pos,af,g⟩ t=some true)(hx:ev t x=some (.string m))(hy:ev t y=some (.string n))
 (h:aU P bl ops rest ⟨nt,(d,.bool (m !=n))::t,L⟩ K):aU P bl ops (⟨some d,.binOp .neq T x y U,ty,pos,af,g⟩::rest) ⟨nt,t,L⟩ K:=
 fG hd hg rfl (fun B a w hrel=>by
 simp[execOp,hrel.ev hx,hrel.ev hy,eqGuard,binOp,Op.stringOp,bne,beq_toListBytes]) h
def fH{T U:Nat}{m n:Array Value}{r:Bool}(hd:Nat.blt d nt=true)(hg:au ops ⟨some d,.binOp .eql T x y U,ty,pos,af,g⟩ t=some true)(hx:ev t x=some (.agg m))(hy:ev t y=some (.agg n))(hm:P.eqGuardType P.depth T=false)
 (hr:∀w,(Op.equalIn 10000 T (.agg m) (.agg n)).run P w= .ok r w)(h:aU P bl ops rest ⟨nt,(d,.bool r)::t,L⟩ K):aU P bl ops (⟨some d,.binOp .eql T x y U,ty,pos,af,g⟩::rest) ⟨nt,t,L⟩ K:=
 fG hd hg rfl (fun B a w hrel=>by
 simp[execOp,hrel.ev hx,hrel.ev hy,run_eqGuard_agg w .eql T x y m n hm,run_eql_struct w T m n,hr w]) h
def DT{T U:Nat}{m n:Array Value}{r:Bool}(hd:Nat.blt d nt=true)(hg:au ops ⟨some d,.binOp .neq T x y U,ty,pos,af,g⟩ t=some true)(hx:ev t x=some (.agg m))(hy:ev t y=some (.agg n))(hm:P.eqGuardType P.depth T=false)
 (hr:∀w,(Op.equalIn 10000 T (.agg m) (.agg n)).run P w= .ok r w)(h:aU P bl ops rest ⟨nt,(d,.bool (!r))::t,L⟩ K):aU P bl ops (⟨some d,.binOp .neq T x y U,ty,pos,af,g⟩::rest) ⟨nt,t,L⟩ K:=
 fG hd hg rfl (fun B a w hrel=>by
 simp[execOp,hrel.ev hx,hrel.ev hy,run_eqGuard_agg w .neq T x y m n hm,run_neq_struct w T m n,hr w]) h
def qde{T:Nat}{parts:List (Nat×Operand)}(ps:List (Nat×Value)){v:Value}(hd:Nat.blt d nt=true)(hg:au ops ⟨some d,.build T parts.toArray,ty,pos,af,g⟩ t=some true)(hx:parts.map (fun p=>(p.1,ev t p.2))=ps.map (fun p=>(p.1,some p.2)))
 (hb:∀w,(Instr.build T ps.toArray).run P w= .ok v w)(h:aU P bl ops rest ⟨nt,(d,v)::t,L⟩ K):aU P bl ops (⟨some d,.build T parts.toArray,ty,pos,af,g⟩::rest) ⟨nt,t,L⟩ K:=
 fG hd hg rfl (fun B a w hrel=>by
 have:(parts.map fun p=>(p.1,a.eval p.2))=ps:=by
  clear h hb hg
  induction parts generalizing ps with
  |nil=>cases ps<;>simp_all
  |cons p parts ih=>
   cases ps with
   |nil=>simp at hx
   |cons q ps=>
    simp only[List.map_cons,List.cons.injEq,Prod.mk.injEq] at hx;rw[List.map_cons,hrel.ev hx.1.2,ih ps hx.2,hx.1.1]
 simp[execOp,this,hb w]) h (fun _=>by unfold mZ;show(jZ t parts).bind _=_;rw[Cj hx];exact P5 hb)
def qi8{T:Nat}{s:ByteArray}(hd:Nat.blt d nt=true)(hT:P.underlying T=some .string)(hg:au ops ⟨some d,.call {callee:= .builtin .len,args:= #[x],argTypes:= #[T]},ty,pos,af,g⟩ t=some true)(hx:ev t x=some (.string s))(h:aU P bl ops rest ⟨nt,(d,.int .i64 s.size)::t,L⟩ K):
 aU P bl ops (⟨some d,.call {callee:= .builtin .len,args:= #[x],argTypes:= #[T]},ty,pos,af,g⟩::rest) ⟨nt,t,L⟩ K:=
 fG hd hg rfl (fun B a w hrel=>by
 have:=run_len_string (P:=P) w T ty s hT;simp[execOp,resolve,invoke,builtin,hrel.ev hx,this,goInt]) h
def Zx{T:Nat}{k:IntKind}{n r:Int}(hd:Nat.blt d nt=true)(hg:au ops ⟨some d,.unOp .neg T x,ty,pos,af,g⟩ t=some true)(hx:ev t x=some (.int k n))(hr:k.wrap (0-n)=r)(h:aU P bl ops rest ⟨nt,(d,.int k r)::t,L⟩ K):
 aU P bl ops (⟨some d,.unOp .neg T x,ty,pos,af,g⟩::rest) ⟨nt,t,L⟩ K:=
 fG hd hg rfl (fun B a w hrel=>by simp[execOp,hrel.ev hx,Op.unary,Op.intArith];simpa using hr) h
def Va{op:BinOp}{T U:Nat}{k:IntKind}{m n r:Int}(hd:Nat.blt d nt=true)(hg:au ops ⟨some d,.binOp op T x y U,ty,pos,af,g⟩ t=some true)(hx:ev t x=some (.int k m))(hy:ev t y=some (.int k n))
 (hr:(match op with| .add=>some (k.wrap (m+n))| .sub=>some (k.wrap (m-n))| .mul=>some (k.wrap (m*n))|_=>none)=some r)(h:aU P bl ops rest ⟨nt,(d,.int k r)::t,L⟩ K):
 aU P bl ops (⟨some d,.binOp op T x y U,ty,pos,af,g⟩::rest) ⟨nt,t,L⟩ K:=
 fG hd hg rfl (fun B a w hrel=>by
 have h1:=hrel.ev hx;have h2:=hrel.ev hy;cases op<;>simp at hr<;>subst hr<;>simp[execOp,h1,h2,eqGuard,binOp,Op.intArith]) h
end
end
end Go.Via
namespace Go.Via
variable[Mo]
open Go Go.RowKit
def Zy{B:Bs}{X:Act->World->Prop}:KC (fun s'=>At B s' X):=fun _ _ he h a w hr=>h a w (he.symm.rel hr)
def DU{P:Program}{bl:List Nat}{ops:Array Oper}{nt:Nat}{t:List (Nat×Value)}{L:List aC}{B:Bs}{X:Act->World->Prop}{l:List Oper}{b:Bool}(d:Nat)(hx:look t d=some (.bool b))
 (hT:b=true->aU P bl ops l ⟨nt,(d,.bool true)::t,L⟩ (fun s'=>At B s' X))(hF:b=false->aU P bl ops l ⟨nt,(d,.bool false)::t,L⟩ (fun s'=>At B s' X)):aU P bl ops l ⟨nt,t,L⟩ (fun s'=>At B s' X):=by
 have key:∀c:Bool,b=c->Cm ⟨nt,(d,.bool c)::t,L⟩ ⟨nt,t,L⟩:=fun c hc=>⟨rfl,rfl,fun k=>by
 by_cases e:d=k
 ·subst e;rw[dR,<-hc];exact hx.symm
 ·rw[bY e]⟩
 cases hb:b
 ·exact aU.kc Zy l _ _ (key false hb) (hF hb)
 ·exact aU.kc Zy l _ _ (key true hb) (hT hb)
def aQ{P:Program}{bl:List Nat}{ops:Array Oper}{nt:Nat}{t:List (Nat×Value)}{L:List aC}{B:Bs}{X:Act->World->Prop}{l:List Oper}{v:Value}(d:Nat)(v':Value)(hx:look t d=some v)(hv:v=v')
 (h:aU P bl ops l ⟨nt,(d,v')::t,L⟩ (fun s'=>At B s' X)):aU P bl ops l ⟨nt,t,L⟩ (fun s'=>At B s' X):=by
 refine aU.kc Zy l ⟨nt,(d,v')::t,L⟩ _ ⟨rfl,rfl,fun k=>?_⟩ h
 by_cases e:d=k
 ·subst e;rw[dR,<-hv];exact hx.symm
 ·rw[bY e]
section
variable{B:Bs}{s:St}{k:Act->World->Prop}{Q:Exit->Act->World->Prop}{id id':Nat}
def qi9(h:At B s k):At B s (Exit.then k Q .normal):=h
def qja(h:At B s (Q .ret)):At B s (Exit.then k Q .ret):=h
def qjb(h:At B s (Q (.exit id))):At B s (Exit.then k Q (.exit id)):=h
def qjc(h:At B s (Q .normal)):At B s (Exit.inBlock id Q .normal):=h
def qjd(h:At B s (Q .ret)):At B s (Exit.inBlock id Q .ret):=h
def qje(h:At B s (Q .normal)):At B s (Exit.inBlock id Q (.exit id)):=fun a w hr=>by
 show if id=id then _ else _
 rw[if_pos rfl];exact h a w hr
def Oi(hne:(id'==id)=false)(h:At B s (Q (.exit id'))):At B s (Exit.inBlock id Q (.exit id')):=fun a w hr=>by
 show if id'=id then _ else _
 rw[if_neg (by simpa using hne)];exact h a w hr
end
end Go.Via
