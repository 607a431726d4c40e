/-
  Part 5 (chapter 32): lemmas, walks. Each theorem states its own conditions.
-/
import GoSem.Core.World
import Derived.MapKept
import Derived.WalkKit
import Derived.WalkSpells
import Derived.WalkLawsBesides
import Derived.Test.YtaffcpfhedadhaaGreatDoorA04
set_option linter.all false
set_option maxRecDepth 20000
set_option maxHeartbeats 20000000
section
variable{P Q:Prop}{T:Type}{R:T->Prop}
def Ig(h:P:=by simpa using h2):=h
def Tz(h:P:=by simpa using hlt):=h
end
namespace Go.Via
variable[Mo]
open Go Go.RowKit
structure TI where
 agg:Bool
 size:Nat
 flds:List (Nat×Nat)
def qow:Option TypeDesc->Option Bool
 |some (.struct _)|some (.array _ _)=>some true
 |some _=>some false
 |none=>none
def qcz(P:Program):Option TypeDesc->List (Nat×Nat)
 |some (.struct fs)=>fs.toList.map fun f=>(f.offset,((P.info? f.type).map (·.size)).getD 0)
 |_=>[]
def dO(P:Program)(t:Nat)(i:TI):Bool:=
 (P.info? t).any (fun inf=>inf.size==i.size)&&(qow (P.underlying t)==some i.agg)&&(qcz P (P.underlying t)==i.flds)
def qhr{P:Program}{t:Nat}{i:TI}(h:dO P t i=true):∃inf,P.info? t=some inf∧inf.size=i.size:=by
 simp only[dO,Bool.and_eq_true,Option.any_eq_true] at h;obtain⟨⟨⟨inf,h1,h2⟩,_⟩,_⟩:=h;exact⟨inf,h1,Ig⟩
theorem qlV{P:Program}{t:Nat}{i:TI}(h:dO P t i=true)(w:World):(isAgg t).run P w= .ok i.agg w:=by
 simp only[dO,Bool.and_eq_true,beq_iff_eq] at h;obtain⟨⟨_,h1⟩,_⟩:=h;cases hu:P.underlying t with
 |none=>rw[hu] at h1;cases h1
 |some d=>
  unfold isAgg;rw[Sem.run_bind,run_underlying hu w];rw[hu] at h1;cases d<;>simp_all[qow]
theorem nR{P:Program}{t:Nat}{i:TI}(h:dO P t i=true)(w:World):(sizeOf t).run P w= .ok i.size w:=by
 obtain⟨inf,h1,h2⟩:=qhr h;simp[sizeOf,typeInfo,h1,h2]
def qcA{P:Program}{t:Nat}{i:TI}(h:dO P t i=true){j:Nat}{p:Nat×Nat}(hp:i.flds[j]? =some p):∃fs f,P.underlying t=some (.struct fs)∧fs[j]? =some f∧f.offset=p.1∧((P.info? f.type).map (·.size)).getD 0=p.2:=by
 simp only[dO,Bool.and_eq_true,beq_iff_eq] at h;obtain⟨_,h1⟩:=h;cases hu:P.underlying t with
 |none=>rw[hu] at h1;simp[qcz] at h1;rw[h1] at hp;simp at hp
 |some d=>
  rw[hu] at h1;cases d<;>simp only[qcz] at h1<;>first|(rw[<-h1] at hp;simp at hp;done)|skip
  rename_i fs
  rw[<-h1,List.getElem?_map] at hp;simp only[Option.map_eq_some_iff] at hp;obtain⟨f,h2,h3⟩:=hp;exact⟨fs,f,rfl,Ig,by rw[<-h3],by rw[<-h3]⟩
def aJ.at(b:aJ)(off:Nat):Value:= .pointer (b.base.map fun g=>⟨g,off,none⟩)
theorem jR(g off j:Nat):(⟨g,off,none⟩:Addr).add j=⟨g,off+j,none⟩:=by unfold Addr.add;split<;>simp_all
def bg.cell{B:Bs}{w:World}{L:List aJ}(h:bg B L w){k:Nat}{b:aJ}(hk:L[k]? =some b){j:Nat}{v:Value}(hj:b.cs[j]? =some v):
 ∃g,b.base=some g∧w.cell? ⟨g,j,none⟩=some v:=by
 obtain⟨h1,h2⟩:=h.blk k b hk;cases hb:b.base with
 |none=>rw[(h2 hb).1] at hj;simp at hj
 |some g=>
  obtain⟨cur,⟨e',fr,h3,_⟩,h4,h5⟩:=(h1 g hb).cells (.inr (fun e=>by rw[e] at hj;simp at hj));refine⟨g,rfl,?_⟩;rw[cell_of_row w g j cur e' fr h3];have hj':j<b.cs.length:=(List.getElem?_eq_some_iff.1 hj).1;rw[<-h5,List.getElem?_take,if_pos hj'] at hj
  simpa using hj
def bg.loadVar{P:Program}{B:Bs}{w:World}{L:List aJ}(h:bg B L w){k:Nat}{b:aJ}(hk:L[k]? =some b){T:Nat}{i:TI}(hi:dO P T i=true){off:Nat}{vs:List Value}{v:Value}
 (hvs:(b.cs.drop off).take i.size=vs)(hlen:vs.length=i.size)(hpos:0<i.size)(hv:(bif i.agg then some (.agg vs.toArray) else vs[0]?)=some v):
 ∃g,b.base=some g∧(Go.loadVar T ⟨g,off,none⟩).run P w= .ok v w:=by
 have hc:∀j u,vs[j]? =some u->b.cs[off+j]? =some u:=by
  intro j u hj;rw[<-hvs,List.getElem?_take] at hj
  split at hj
  ·simpa using hj
  ·cases hj
 obtain⟨u0,hu0⟩:∃u,vs[0]? =some u:=by rw[List.getElem?_eq_getElem ae];exact⟨_,rfl⟩
 obtain⟨g,hg,h0⟩:=h.cell hk (hc 0 u0 hu0);refine⟨g,hg,?_⟩;have hcell:∀j u,vs[j]? =some u->w.cell? ((⟨g,off,none⟩:Addr).add j)=some u:=by
  intro j u hj;obtain⟨g',hg',h1⟩:=h.cell hk (hc j u hj);rw[hg] at hg';cases hg';rw[jR];exact h1
 unfold Go.loadVar;rw[Sem.run_bind,qlV hi w];simp only[Result.andThen_ok];cases ha:i.agg with
 |true=>
  rw[ha] at hv;simp only[cond_true,Option.some.injEq] at hv;subst hv;have:=run_loadCells_list (P:=P) w ⟨g,off,none⟩ vs hcell;rw[hlen] at this;simp[Sem.run_bind,nR hi w,this]
 |false=>
  rw[ha] at hv;simp only[cond_false] at hv;have:=hcell 0 v hv;simp only[jR,Nat.add_zero] at this;simp[this]
section
variable{P:Program}{o:Oper}{s:St}
def qlW{x:Operand}{v:Value}(ho:o.op= .move x)(hx:ev s.t x=some v):EG P o s v:=fun B a w hr=>by
 simp[execOp,ho,hr.ev hx]
def qcB{x:Operand}{v:Value}(ho:o.op= .assign x)(hx:ev s.t x=some v):EG P o s v:=fun B a w hr=>by
 simp[execOp,ho,hr.ev hx]
def qcC{c x y:Operand}{b:Bool}{v:Value}(ho:o.op= .pick c x y)(hc:ev s.t c=some (.bool b))(hv:ev s.t (if b then x else y)=some v):EG P o s v:=fun B a w hr=>by
 have h1:=hr.ev hc;have h2:=hr.ev hv;cases b<;>simp[execOp,ho,h1,asBool]<;>simpa using h2
def qcD{T:Nat}{x:Operand}{i:TI}{b:aJ}{off:Nat}{vs:List Value}{v:Value}(ho:o.op= .load T x)(k:Nat)(hk:s.L[k]? =some b)(hx:ev s.t x=some (b.at off))(hi:dO P T i=true)
 (hvs:(b.cs.drop off).take i.size=vs)(hlen:vs.length=i.size)(hpos:0<i.size)(hv:(bif i.agg then some (.agg vs.toArray) else vs[0]?)=some v):EG P o s v:=fun B a w hr=>by
 obtain⟨g,hg,h1⟩:=hr.mem.loadVar hk hi hvs hlen hpos hv;have h2:=hr.ev hx;unfold aJ.at at h2;rw[hg] at h2;simp only[Option.map_some] at h2;simp[execOp,ho,h2,Instr.loadAt,Instr.sureAddr,h1]
end
def VN(w:World)(g:Nat)(cur':Array Value){es:Array MapEntry}{c:Nat}(h:w.heap[g]? =some (.map es c)):(w.setRow g cur').heap[g]? =some (.map es c):=by
 have hlt:g<w.heap.size:=(Array.getElem?_eq_some_iff.1 h).1;have hv:w.heap[g]= .map es c:=(Array.getElem?_eq_some_iff.1 h).2;unfold World.setRow;rw[Array.getElem?_eq_getElem Tz,Array.getElem_modify];simp[hv]
theorem bg.set{B:Bs}{w:World}{L:List aJ}(h:bg B L w){k:Nat}{b:aJ}(hk:L[k]? =some b)(ho:b.own=true){g:Nat}(hg:b.base=some g)(cur':Array Value)(cs':List Value)
 (hn:cur'.size=b.n)(hc:cur'.toList.take cs'.length=cs'):bg B (L.set k {b with cs:=cs'}) (w.setRow g cur'):=by
 have h6:=((h.blk k b hk).1 g hg).2;have hkl:k<L.length:=(List.getElem?_eq_some_iff.1 hk).1;have base:∀(m:Nat) (bm:aJ),(L.set k {b with cs:=cs'})[m]? =some bm->∃bm',L[m]? =some bm'∧bm'.base=bm.base∧bm'.own=bm.own∧bm'.e=bm.e:=by
  intro m bm hm
  by_cases e:k=m
  ·subst e;rw[List.getElem?_set_self hkl] at hm;cases hm;exact⟨b,hk,rfl,rfl,rfl⟩
  ·rw[List.getElem?_set_ne e] at hm;exact⟨bm,hm,rfl,rfl,rfl⟩
 refine⟨h.bel.one (h6 ho) rfl rfl rfl bI (fun i hne=>setRow_other w g i _ ae),fun j b' hj=>?_,fun i j g' bi bj hij hi hj hoi hgi hgj=>?_,?_⟩
 rotate_left 2
 ·refine(h.grp.step (w':=w.setRow g cur') fun g' _ hc=>setRow_other w g g' _ (fun e=>hc b (List.mem_of_getElem? hk) ho (by rw[hg,e]))).sub (fun c hc hn=>?_) (fun c hc hoc g' hgc=>?_)
  ·obtain⟨m,hm⟩:=List.mem_iff_getElem?.1 hc;obtain⟨c',c1,c2,c3,c4⟩:=base m c hm;exact .inr ⟨c',List.mem_of_getElem? c1,by rw[c2];exact hn,c4,fun h=>by rw[c3];exact h⟩
  ·obtain⟨m,hm⟩:=List.mem_iff_getElem?.1 hc;obtain⟨c',c1,c2,c3,c4⟩:=base m c hm;exact⟨c',List.mem_of_getElem? c1,by rw[c3];exact hoc,by rw[c2];exact hgc⟩
 ·by_cases e:k=j
  ·subst e;rw[List.getElem?_set_self hkl] at hj;cases hj;refine⟨fun g' hg'=>?_,fun hn'=>by rw[hg] at hn';cases hn'⟩
   rw[hg] at hg';cases hg';refine⟨?_,h6⟩;rcases((h.blk k b hk).1 g hg).1 with⟨cur,⟨e',fr,h3,hfr,hlt⟩,h4,h5⟩|⟨l,es,c,a1,a2,a3,a4,h3,a5⟩
   ·obtain⟨rfl,rfl⟩:=hfr ho;exact .inl ⟨cur',⟨_,_,setRow_heap w g cur cur' b.e (0,0) h3,fun _=>⟨rfl,rfl⟩,hlt⟩,hn,hc⟩
   ·have hcs:cs'=[]:=by
     have h7:cur'.toList=[]:=List.eq_nil_of_length_eq_zero (by rw[Array.length_toList,hn,a3]);rw[h7] at hc;simpa using hc.symm
    exact .inr ⟨l,es,c,a1,hcs,a3,a4,VN w g cur' h3,a5⟩
  ·rw[List.getElem?_set_ne e] at hj;obtain⟨h1,h2⟩:=h.blk j b' hj;refine⟨fun g' hg'=>?_,h2⟩;have h8:=h1 g' hg';have hne:g'≠g:=fun e'=>h.apart k j g b b' e hk hj ho hg (by rw[hg',e'])
   exact h8.heap (setRow_other w g g' _ hne)
 ·obtain⟨bi',a1,a2,a3,_⟩:=base i bi hi;obtain⟨bj',c1,c2,c3,_⟩:=base j bj hj;exact h.apart i j g' bi' bj' hij a1 c1 (by rw[a3];exact hoi) (by rw[a2];exact hgi) (by rw[c2];exact hgj)
section
variable{P:Program}{o:Oper}{s:St}
def JQ{X:Type}{nx:X->St}(h:∀(B:Bs) (a:Act) (w:World),kQ B s a w->∃v w' x,(execOp a.eval o).run P w= .ok (.value v) w'∧kQ B (nx x) (a.put o.dst v) w'):Eff P o s X nx:=fun B a w hr=>by
 obtain⟨v,w',x,h1,h2⟩:=h B a w hr;unfold Oper.wp;rw[h1];exact⟨x,h2⟩
def qox{T:Nat}{x:Operand}{v:Value}(hT:T<dn)(hd:∀d,o.dst=some d->d<s.nt)(ho:o.op= .box T x)(hx:ev s.t x=some v):
 Eff P o s Nat (fun g=>({s with L:=s.L++[⟨some g,T,v.cells.toList,v.cells.size,true⟩]}:St).put o.dst (.pointer (some ⟨g,0,none⟩))):=
 JQ fun B a w hr=>⟨.pointer (some ⟨w.heap.size,0,none⟩),w.alloc (.cells v.cells T),w.heap.size,by simp[execOp,ho,hr.ev hx,Instr.box,newVar,newRow],hr.put hd (hr.mem.alloc T v.cells hT)⟩
def qaz{T:Nat}{z:Value}{tt:List (Nat×Value)}(hT:T<dn)(ho:o.op= .alloc T)(hz:(P.info? T).bind (·.zero)=some z):zV P tt o=some (T,z.cells):=by
 unfold zV;rw[ho];dsimp only;rw[if_pos hT,hz];rfl
def EK{T:Nat}{x y:Operand}{i:TI}{b:aJ}{off:Nat}{v:Value}(ho:o.op= .store T x y)(k:Nat)(hk:s.L[k]? =some b)(hown:b.own=true)(hx:ev s.t x=some (b.at off))(hb:b.base.isSome=true)
 (hy:ev s.t y=some v)(hi:dO P T i=true)(hsz:v.cells.size=i.size)(hpos:0<i.size)(hfit:off+i.size<=b.cs.length)(h1:(v.cells.toList.all fun u=>u.oneCell')=true):
 qcv P o s (s.L.set k {b with cs:=b.cs.take off++v.cells.toList++b.cs.drop (off+i.size)}):=fun B a w hr=>by
 obtain⟨g,hg⟩:=Option.isSome_iff_exists.1 hb;have h2:=hr.ev hx;unfold aJ.at at h2;rw[hg] at h2;simp only[Option.map_some] at h2;obtain⟨cur,⟨e',fr,h3,hfr,_⟩,h4,h5⟩:=((hr.mem.blk k b hk).1 g hg).cells (.inr (fun e=>by rw[e] at hfit;simp at hfit;omega));obtain⟨rfl,rfl⟩:=hfr hown;have hlc:b.cs.length<=cur.size:=by
  have:=congrArg List.length h5;simp at this;omega
 have hvl:v.cells.toList.length=i.size:=(by simp[hsz]);have hst:=run_storeCells_at P g off b.e v.cells.toList 0 cur w h3 (by rw[hvl];omega) (fun u hu=>List.all_eq_true.1 h1 u hu);simp only[Nat.add_zero] at hst;have hrun:(execOp a.eval o).run P w= .ok .skip (w.setRow g (cur.toList.take off++v.cells.toList++cur.toList.drop (off+v.cells.toList.length)).toArray):=by
  simp only[execOp,ho,hr.ev hy,h2,Instr.storeAt,Instr.sureAddr,Sem.run_bind,Sem.run_pure,Result.andThen_ok];unfold Go.storeVar;simp only[Sem.run_bind,nR hi w,Result.andThen_ok,hsz,ne_eq,not_true,if_false,Sem.run_ite];simp[hst]
 refine⟨_,hrun,?_⟩;refine hr.mem.set hk hown hg _ _ ?_ ?_
 ·simp only[List.size_toArray,List.length_append,List.length_take,List.length_drop,Array.length_toList,hvl];rw[<-h4];simp only[Array.length_toList] at*;omega
 ·simp only[hvl];have hct:cur.toList=b.cs++cur.toList.drop b.cs.length:=by
   conv=>lhs;rw[<-List.take_append_drop b.cs.length cur.toList,h5]
  generalize hcl:cur.toList=cl at*
  generalize hr':cl.drop b.cs.length=rest at*
  subst hct;have e1:(b.cs++rest).take off=b.cs.take off:=by rw[List.take_append_of_le_length ae]
  have e2:(b.cs++rest).drop (off+i.size)=b.cs.drop (off+i.size)++rest:=(by rw[List.drop_append_of_le_length hfit]);rw[e1,e2,<-List.append_assoc];exact List.take_left
end
end Go.Via
