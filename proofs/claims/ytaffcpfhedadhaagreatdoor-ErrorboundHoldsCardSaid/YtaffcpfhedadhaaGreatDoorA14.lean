/-
  Part 14 (chapter 32): lemmas, walks. Each theorem states its own conditions.
-/
import Derived.ChangeSame
import Derived.OpenShut
import Derived.RowKit3
import Derived.ProofKit
import Derived.Deep.Slices
import Derived.Carry
import Derived.ChangeMaps5
import Derived.Test.YtaffcpfhedadhaaGreatDoorCards
import Derived.Test.YtaffcpfhedadhaaGreatDoorTie
import Derived.WalkKit
import Derived.Deep.DeepHandedRow
import Derived.Lib.LaidTab
import Derived.WalkSpells
import Derived.Lib.SliceRun
import Derived.Test.YtaffcpfhedadhaaGreatDoorA03
import Derived.Test.YtaffcpfhedadhaaGreatDoorA05
import Derived.Test.YtaffcpfhedadhaaGreatDoorA06
import Derived.Test.YtaffcpfhedadhaaGreatDoorA11
import Derived.Test.YtaffcpfhedadhaaGreatDoorA12
import Derived.Test.YtaffcpfhedadhaaGreatDoorA13
set_option linter.all false
set_option maxRecDepth 20000
set_option maxHeartbeats 20000000
namespace Go.Proofs.YtaffcpfhedadhaaGreatDoor
open Go Go.RowKit Go.Via Go.ChangeShapes Go.WideShapes
def U9{w w':World}(h:Below w.heap.size w w')(may:MemPlace->Prop):w.keptBut w' may:=by
 have hb:∀b,b<w.heap.size->w'.heap[b]? =w.heap[b]? :=h.block;refine⟨h.os,h.output,fun i hi=>?_⟩
 rw[hb i hi]
 split
 ·rename_i e1 e2
  rw[e1] at e2;cases e2;exact⟨rfl,rfl,rfl,fun _ _=>rfl⟩
 ·rename_i e1 e2
  rw[e1] at e2;cases e2;exact Or.inr ⟨rfl,rfl⟩
 ·rfl
def qbX{α:Type}(a0:α){n:Nat}{p:Nat->α->Prop}(h:∀i,i<n->∃x,p i x):∃f:Nat->α,∀i,i<n->p i (f i):=by
 classical
 refine⟨fun i=>if h':i<n then Classical.choose (h i h') else a0,fun i hi=>?_⟩
 show p i (if h':i<n then Classical.choose (h i h') else a0)
 rw[dif_pos hi];exact Classical.choose_spec (h i hi)
def qbY{w:World}{a:Addr}{cs:List Value}(e:TypeId)(he:e<bW)(hne:cs≠[])(h:∀(j:Nat) (v:Value),cs[j]? =some v->w.cell? (a.add j)=some v):
 ∃(g:Nat) (pre:List Value) (N:Nat),a=⟨g,pre.length,none⟩∧qW (Bs.of w) w ⟨some g,e,pre++cs,N,false⟩ g:=by
 obtain⟨c0,l,rfl⟩:=List.exists_cons_of_ne_nil hne;have h0:=h 0 c0 rfl;rw[show a.add 0=a by simp[Addr.add]] at h0;obtain⟨g,off,spot⟩:=a;have h0':=h0;unfold World.cell? at h0'
 split at h0'
 ·rename_i cur e0 fr heq
  split at h0'
  ·cases h0'
  ·rename_i hsp
   have hsn:spot=none:=by cases spot with|none=>rfl|some z=>simp at hsp
   subst hsn;have hoff:off<cur.size:=(Array.getElem?_eq_some_iff.1 h0').1;have hpl:(cur.toList.take off).length=off:=by simp;omega
   refine⟨g,cur.toList.take off,cur.size,by rw[hpl],?_⟩;refine⟨.inl ⟨cur,⟨e0,fr,heq,(fun h=>by cases h),he⟩,rfl,?_⟩,fun h=>by cases h⟩
   refine List.ext_getElem? fun j=>?_
   show(cur.toList.take (cur.toList.take off++c0::l).length)[j]? =_;rw[List.length_append,hpl]
   by_cases hj:j<off
   ·rw[List.getElem?_append_left (by rw[hpl];exact hj),List.getElem?_take,List.getElem?_take,if_pos (by omega),if_pos hj]
   ·rw[List.getElem?_append_right (by rw[hpl];omega),hpl,List.getElem?_take]
    split
    ·rename_i hj2
     obtain⟨v,hv⟩:∃v,(c0::l)[j-off]? =some v:=⟨_,List.getElem?_eq_getElem (by omega)⟩;have k2:=h _ _ hv;rw[kJ] at k2;unfold World.cell? at k2;simp only[heq] at k2;rw[show off+(j-off)=j by omega] at k2;rw[hv,<-k2];simp
    ·rename_i hj2
     rw[List.getElem?_eq_none (by omega)]
 ·cases h0'
theorem Td{f:Nat->List Value}{k:Nat}:∀{n:Nat},(∀i,i<n->(f i).length=k)->((List.range n).flatMap f).length=n*k
 |0,_=>by simp
 |n+1,h=>by rw[List.range_succ,List.flatMap_append,List.length_append,Td (n:=n) (fun i hi=>h i (by omega))];simp[h n (by omega)];rw[Nat.succ_mul]
def Va{w:World}{a:Addr}{k n:Nat}{f:Nat->List Value}(hf:∀i,i<n->w.cells? 0 (a.add (i*k)) k=some (f i))(hk:∀i,i<n->(f i).length=k)(h0:0<k):
 ∀(j:Nat) (v:Value),((List.range n).flatMap f)[j]? =some v->w.cell? (a.add j)=some v:=by
 induction n with
 |zero=>intro j v h;simp at h
 |succ n ih=>
  intro j v h;rw[List.range_succ,List.flatMap_append] at h;have hl:=Td (f:=f) (k:=k) (n:=n) (fun i hi=>hk i (by omega))
  by_cases hj:j<n*k
  ·rw[List.getElem?_append_left (by rw[hl];exact hj)] at h;exact ih (fun i hi=>hf i (by omega)) (fun i hi=>hk i (by omega)) j v h
  ·rw[List.getElem?_append_right (by rw[hl];omega),hl] at h;simp only[List.flatMap_cons,List.flatMap_nil,List.append_nil] at h;have hjl:j-n*k<k:=by
    have:=(List.getElem?_eq_some_iff.1 h).1
    rwa [hk n (by omega)] at this
   obtain⟨_,_,hc⟩:=World.cells?_some (hf n (by omega));have:=hc (j-n*k) hjl;rw[h,Addr.add_add] at this;rw[<-this]
   congr 2
   omega
def qhO{W:World}{L:List aF}(ho:∀b∈L,b.own=false)(h:∀b∈L,(∀g,b.base=some g->qW (Bs.of W) W b g)∧(b.base=none->b.cs=[]∧b.n=0∧∀T:KU,Fe T=true->b.e=gE T->∀p∈T,rX W p)):aT (Bs.of W) L W:=by
 refine⟨lQ.of (eQ.refl _ _),fun k b hk=>?_,fun i j g bi bj hij hi hj hio=>?_,fun b hb hn T hT he p hp=>?_⟩
 ·have:=h b (List.mem_of_getElem? hk);exact⟨this.1,fun hn=>⟨(this.2 hn).1,(this.2 hn).2.1⟩⟩
 ·rw[ho bi (List.mem_of_getElem? hi)] at hio;cases hio
 ·refine⟨((h b hb).2 hn).2.2 T hT he p hp,fun hbo=>?_,fun c hc hco=>?_⟩
  ·rw[ho b hb] at hbo;cases hbo
  ·rw[ho c hc] at hco;cases hco
def qbZ{p:Program}{fits:TypeId->Bool}{d e count off n:Nat}(h:rowAt p fits d e count off n=true):off<=count*p.cellsOf e:=by
 cases d with
 |zero=>cases h
 |succ d=>
  unfold rowAt at h;dsimp only at h
  split at h
  ·cases h
  ·rename_i hs
   have hd:=Nat.div_add_mod off (p.cellsOf e);have hlt:=Nat.mod_lt off (Nat.pos_of_ne_zero hs);rw[Bool.or_eq_true] at h;rcases h with h|h
   ·simp only[Bool.and_eq_true,beq_iff_eq,decide_eq_true_eq] at h;have:p.cellsOf e*(off/p.cellsOf e)<=p.cellsOf e*count:=Nat.mul_le_mul_left _ (by omega);rw[Nat.mul_comm count];omega
   ·rw[Bool.and_eq_true,decide_eq_true_eq] at h;have:p.cellsOf e*(off/p.cellsOf e+1)<=p.cellsOf e*count:=Nat.mul_le_mul_left _ (by omega);rw[Nat.mul_add,Nat.mul_one] at this;rw[Nat.mul_comm count];omega
def NT{p:Program}:∀{d e count off u n:Nat},liesAt p d e count off u n=true->off<=count*p.cellsOf e
 |0,_,_,_,_,_,h=>by cases h
 |d+1,e,count,off,u,n,h=>by
  unfold liesAt at h;rw[Bool.or_eq_true] at h;rcases h with h|h
  ·exact qbZ h
  ·split at h
   ·exact NT h
   ·cases h
def qe7{W:World}{r:Reach}{base:Nat}{a:Addr}{e n:Nat}(h:W.has Tryz.prog r base a e n):∃(g:Nat) (pre:List Value) (N:Nat),a=⟨g,pre.length,none⟩∧qW (Bs.of W) W ⟨some g,86,pre++[],N,false⟩ g:=by
 obtain⟨_,hsp,row,cells,hsh,hl⟩:=h;obtain⟨g,off,spot⟩:=a;simp only at hsp hsh hl;subst hsp;unfold World.shape? at hsh
 split at hsh
 ·rename_i cur elem fr heq
  cases hsh;have h1:=NT hl;have h2:off<=cur.size:=Nat.le_trans h1 (Nat.div_mul_le_self _ _);have hpl:(cur.toList.take off).length=off:=by simp;omega
  refine⟨g,cur.toList.take off,cur.size,by rw[hpl],.inl ⟨cur,⟨_,_,heq,(fun h=>by cases h),(show 86<bW by decide)⟩,rfl,?_⟩,fun h=>by cases h⟩
  show cur.toList.take (cur.toList.take off++[]).length=cur.toList.take off++[];rw[List.append_nil,hpl]
 ·cases hsh
abbrev Tf(W:World)(b:aF):Prop:=(∀g,b.base=some g->qW (Bs.of W) W b g)∧(b.base=none->b.cs=[]∧b.n=0∧∀T:KU,Fe T=true->b.e=gE T->∀p∈T,rX W p)
def qjy{W:World}:∀{L:List aF},List.foldr (fun b p=>(b.own=false∧Tf W b)∧p) True L->aT (Bs.of W) L W:=fun {L} h=>by
 have key:∀L:List aF,List.foldr (fun b p=>(b.own=false∧Tf W b)∧p) True L->∀b∈L,b.own=false∧Tf W b:=by
  intro L
  induction L with
  |nil=>intro _ b hb;cases hb
  |cons a L ih=>
   intro h b hb;rcases List.mem_cons.1 hb with rfl|hb
   ·exact h.1
   ·exact ih h.2 b hb
 exact qhO (fun b hb=>(key L h b hb).1) (fun b hb=>(key L h b hb).2)
def PG{W:World}{b:Option Nat}{e N:Nat}{cs:List Value}(he:e<bW)(h1:∀g,b=some g->qW (Bs.of W) W ⟨b,e,cs,N,false⟩ g)(h2:b=none->cs=[]∧N=0):Tf W ⟨b,e,cs,N,false⟩:=
 ⟨h1,fun hn=>⟨(h2 hn).1,(h2 hn).2,fun T _ he'=>absurd (he'▸he) (IU T)⟩⟩
section
variable{H:Type}{enc:TypeId×Value->H}{w:World}
theorem ce4:Tryz.prog.cellsOf 4=1:=by kernel_rfl
theorem ce5:Tryz.prog.cellsOf 5=1:=by kernel_rfl
theorem qlg:Tryz.prog.cellsOf 22=1:=by kernel_rfl
theorem qlh:Tryz.prog.cellsOf 24=4:=by kernel_rfl
theorem qli:Tryz.prog.cellsOf 26=9:=by kernel_rfl
theorem qlj:Tryz.prog.cellsOf 48=5:=by kernel_rfl
theorem qjz:Tryz.prog.cellsOf 86=4:=by kernel_rfl
abbrev Rd(w:World)(enc:TypeId×Value->H)(fuel t:Nat)(cs:List Value)(x:DataW H×List MemPlace):Prop:=DataW.trod enc Tryz.prog w 0 (fun _=>true) true fuel t cs=some x
def Y4{fuel:Nat}{c:Value}{x:DataW H×List MemPlace}(h:Rd w enc fuel 5 [c] x):∃m:Nat,m<256∧c= .int .u8 (m:Nat):=by
 obtain⟨n,e,_,hk⟩:=DataW.trod_int Tryz.underlying5 h;simp only[Lit.wf,Bool.and_eq_true,decide_eq_true_eq] at hk;have h1:0<=n:=hk.1;have h2:n<=255:=hk.2;refine⟨n.toNat,by omega,?_⟩;rw[Int.toNat_of_nonneg h1]
 simpa using e
def qlk{fuel:Nat}{cs:List Value}{x:DataW H×List MemPlace}(h:Rd w enc fuel 86 cs x):∃s:rG,YT s∧cs=jT s:=by
 obtain⟨xs,n,_,rfl,hl,hlen,hf⟩:=DataW.trod_struct Tryz.underlying86 h;rw[qjz] at hl
 match cs,hl,xs,hlen with
 |[c0,c1,c2,c3],_,[y0,y1,y2,y3],_=>
  have f0:Rd w enc n 5 ((([c0,c1,c2,c3]:List Value).drop 0).take (Tryz.prog.cellsOf 5)) y0:=hf 0 _ rfl;have f1:Rd w enc n 5 ((([c0,c1,c2,c3]:List Value).drop 1).take (Tryz.prog.cellsOf 5)) y1:=hf 1 _ rfl;have f2:Rd w enc n 5 ((([c0,c1,c2,c3]:List Value).drop 2).take (Tryz.prog.cellsOf 5)) y2:=hf 2 _ rfl;have f3:Rd w enc n 5 ((([c0,c1,c2,c3]:List Value).drop 3).take (Tryz.prog.cellsOf 5)) y3:=hf 3 _ rfl;rw[ce5] at f0 f1 f2 f3;obtain⟨a,ha,rfl⟩:=Y4 f0;obtain⟨b,hb,rfl⟩:=Y4 f1;obtain⟨c,hc,rfl⟩:=Y4 f2;obtain⟨d,hd,rfl⟩:=Y4 f3;exact⟨⟨a,b,c,d⟩,⟨ha,hb,hc,hd⟩,rfl⟩
structure qe8(w:World)(l:List rG)(b:Option Nat)(pre:List Value)(N cap:Nat):Prop where
 le:l.length<=cap
 ok:∀s∈l,YT s
 blk:Tf w ⟨b,86,pre++ak jT l,N,false⟩
def qhP{r:Reach}{b0 fuel:Nat}{v:Value}{x:DataW H×List MemPlace}(hval:Cell.ok Tryz.prog w r b0 22 v)(h:Rd w enc fuel 22 [v] x):
 ∃(l:List rG) (b:Option Nat) (pre:List Value) (N cap:Nat),v=aI b pre.length l.length cap∧qe8 w l b pre N cap:=by
 rcases DataW.trod_slice Tryz.underlying22 h with⟨h1,_⟩|⟨a,len,cap,elems,rest,m,hm,h1,h2,_,hlc,_,hel,hx,_,_⟩
 ·obtain rfl:v= .slice none 0 0:=by simpa using h1
  exact⟨[],none,[],0,0,rfl,Nat.le_refl _,by simp,PG (by decide) (fun g hg=>by cases hg) fun _=>⟨rfl,rfl⟩⟩
 ·obtain rfl:v= .slice (some a) len cap:=by simpa using h1
  rw[qjz] at hx;obtain⟨F,hF⟩:=qbX (α:=rG) ⟨0,0,0,0⟩ (n:=len) (p:=fun i s=>YT s∧w.cells? 0 (a.add (i*4)) 4=some (jT s)) (fun i hi=>by
 obtain⟨y,hy⟩:∃y,elems[i]? =some y:=⟨_,List.getElem?_eq_getElem (by omega)⟩;have hxi:=hx i hi;rw[hy] at hxi;obtain⟨row,r1,r2⟩:=Option.bind_eq_some_iff.1 hxi;obtain⟨s,hs,rfl⟩:=qlk r2;exact⟨s,hs,r1⟩)
  by_cases h0:len=0
  ·subst h0;unfold Cell.ok at hval;rw[Tryz.underlying22] at hval;obtain⟨g,pre,N,rfl,hB⟩:=qe7 hval.2.2;exact⟨[],some g,pre,N,cap,rfl,Nat.zero_le _,by simp,PG (by decide) (fun g' hg'=>by cases hg';exact hB) fun h=>by cases h⟩
  ·have hSB:ak jT ((List.range len).map F)=(List.range len).flatMap fun i=>jT (F i):=by
    unfold ak;rw[List.flatMap_map]
   have hlen:((List.range len).map F).length=len:=(by simp);have hne:ak jT ((List.range len).map F)≠[]:=fun e=>by
    have:=congrArg List.length e;rw[jP.length,hlen] at this;simp at this;omega
   obtain⟨g,pre,N,rfl,hB⟩:=qbY (w:=w) (a:=a) 86 (by decide) hne (by
 rw[hSB];exact Va (k:=4) (fun i hi=>(hF i hi).2) (fun i hi=>rfl) (by decide))
   refine⟨(List.range len).map F,some g,pre,N,cap,by rw[hlen];rfl,by rw[hlen];exact hlc,fun s hs=>?_,PG (by decide) (fun g' hg'=>by cases hg';exact hB) fun h=>by cases h⟩
   obtain⟨i,hi,rfl⟩:=List.mem_map.1 hs;exact(hF i (List.mem_range.1 hi)).1
def qjA{r:Reach}{b0 fuel:Nat}{c0 c1 c2 c3:Value}{x:DataW H×List MemPlace}(hval:Cell.ok Tryz.prog w r b0 22 c3)(h:Rd w enc fuel 24 [c0,c1,c2,c3] x):
 ∃(t x y:Nat) (l:List rG) (b:Option Nat) (pre:List Value) (N cap:Nat),(t<256∧x<256∧y<256)∧[c0,c1,c2,c3]=[.int .u8 (t:Nat),.int .u8 (x:Nat),.int .u8 (y:Nat),aI b pre.length l.length cap]∧qe8 w l b pre N cap:=by
 obtain⟨xs,n,_,rfl,hl,hlen,hf⟩:=DataW.trod_struct Tryz.underlying24 h
 match xs,hlen with
 |[y0,y1,y2,y3],_=>
  have f0:Rd w enc n 5 ((([c0,c1,c2,c3]:List Value).drop 0).take (Tryz.prog.cellsOf 5)) y0:=hf 0 _ rfl;have f1:Rd w enc n 5 ((([c0,c1,c2,c3]:List Value).drop 1).take (Tryz.prog.cellsOf 5)) y1:=hf 1 _ rfl;have f2:Rd w enc n 5 ((([c0,c1,c2,c3]:List Value).drop 2).take (Tryz.prog.cellsOf 5)) y2:=hf 2 _ rfl;have f3:Rd w enc n 22 ((([c0,c1,c2,c3]:List Value).drop 3).take (Tryz.prog.cellsOf 22)) y3:=hf 3 _ rfl;rw[ce5] at f0 f1 f2;rw[qlg] at f3;obtain⟨a,ha,rfl⟩:=Y4 f0;obtain⟨b,hb,rfl⟩:=Y4 f1;obtain⟨c,hc,rfl⟩:=Y4 f2;obtain⟨l,bb,pre,N,cap,rfl,hs⟩:=qhP hval f3;exact⟨a,b,c,l,bb,pre,N,cap,⟨ha,hb,hc⟩,rfl,hs⟩
def qe9{r:Reach}{b0:Nat}{v:Value}{d:DataW H}{ps:List MemPlace}(hval:Value.okWide Tryz.prog w r b0 26 v)(hd:DataW.Trod enc Tryz.prog w 0 (fun _=>true) true 26 v d ps):
 ∃(ta xa ya tb xb yb ch:Nat) (a b:List rG) (ab:Option Nat) (pa:List Value) (aN ac:Nat) (bb:Option Nat) (pb:List Value) (bN bc:Nat),(ta<256∧xa<256∧ya<256∧tb<256∧xb<256∧yb<256∧ch<256)∧
  v= .agg #[.int .u8 (ta:Nat),.int .u8 (xa:Nat),.int .u8 (ya:Nat),aI ab pa.length a.length ac,.int .u8 (tb:Nat),.int .u8 (xb:Nat),.int .u8 (yb:Nat),aI bb pb.length b.length bc,.int .u8 (ch:Nat)]∧qe8 w a ab pa aN ac∧qe8 w b bb pb bN bc:=by
 obtain⟨cs,rfl,hcs⟩:=okWide_struct Tryz.underlying26 hval;obtain⟨fuel,hf⟩:=hd;have hrow:Row.okWide Tryz.prog w r b0 26 cs:=by
  unfold Value.okWide at hval;rw[Tryz.underlying26] at hval;obtain⟨cs',e,_,h⟩:=hval;cases e;exact h
 obtain⟨ts,hts,_,hall⟩:=hrow;obtain rfl:ts=[5,5,5,22,5,5,5,22,5]:=Option.some.inj (hts.symm.trans (show Tryz.prog.cellTypes Tryz.prog.depth 26=some [5,5,5,22,5,5,5,22,5] by kernel_rfl));obtain⟨xs,n,hn,hx,hl,hlen,hf⟩:=DataW.trod_struct Tryz.underlying26 hf;rw[qli] at hl;obtain⟨cl⟩:=cs
 match cl,hl,xs,hlen with
 |[c0,c1,c2,c3,c4,c5,c6,c7,c8],_,[y0,y1,y2],_=>
  have f0:Rd w enc n 24 ((([c0,c1,c2,c3,c4,c5,c6,c7,c8]:List Value).drop 0).take (Tryz.prog.cellsOf 24)) y0:=hf 0 _ rfl;have f1:Rd w enc n 24 ((([c0,c1,c2,c3,c4,c5,c6,c7,c8]:List Value).drop 4).take (Tryz.prog.cellsOf 24)) y1:=hf 1 _ rfl;have f2:Rd w enc n 5 ((([c0,c1,c2,c3,c4,c5,c6,c7,c8]:List Value).drop 8).take (Tryz.prog.cellsOf 5)) y2:=hf 2 _ rfl;rw[qlh] at f0 f1;rw[ce5] at f2;obtain⟨u3,hu3,hok3⟩:=hall 3 c3 rfl;obtain rfl:u3=22:=(by simpa using hu3.symm);obtain⟨u7,hu7,hok7⟩:=hall 7 c7 rfl;obtain rfl:u7=22:=(by simpa using hu7.symm);have ok:∀c,Cell.okWide Tryz.prog w r b0 22 c->Cell.ok Tryz.prog w r b0 22 c:=fun c hok=>by
   unfold Cell.okWide at hok;rw[Tryz.underlying22] at hok;exact hok
  obtain⟨ta,xa,ya,a,ab,pa,aN,ac,⟨h1,h2,h3⟩,e1,sa⟩:=qjA (ok c3 hok3) f0;obtain⟨tb,xb,yb,b,bb,pb,bN,bc,⟨h4,h5,h6⟩,e2,sb⟩:=qjA (ok c7 hok7) f1;obtain⟨ch,h7,rfl⟩:=Y4 f2;simp only[List.cons.injEq,and_true] at e1 e2;obtain⟨rfl,rfl,rfl,rfl⟩:=e1;obtain⟨rfl,rfl,rfl,rfl⟩:=e2;exact⟨ta,xa,ya,tb,xb,yb,ch,a,b,ab,pa,aN,ac,bb,pb,bN,bc,⟨h1,h2,h3,h4,h5,h6,h7⟩,rfl,sa,sb⟩
def qfa{r:Reach}{b0:Nat}{v:Value}{d:DataW H}{ps:List MemPlace}(hval:Value.okWide Tryz.prog w r b0 48 v)(hd:DataW.Trod enc Tryz.prog w 0 (fun _=>true) true 48 v d ps):
 ∃(ia ib ic id:Nat) (s:Bool),(ia<256∧ib<256∧ic<256∧id<256)∧v= .agg #[.int .u8 (ia:Nat),.int .u8 (ib:Nat),.int .u8 (ic:Nat),.int .u8 (id:Nat),.bool s]:=by
 obtain⟨cs,rfl,hcs⟩:=okWide_struct Tryz.underlying48 hval;obtain⟨fuel,hf⟩:=hd;obtain⟨xs,n,hn,hx,hl,hlen,hf⟩:=DataW.trod_struct Tryz.underlying48 hf;rw[qlj] at hl;obtain⟨cl⟩:=cs
 match cl,hl,xs,hlen with
 |[c0,c1,c2,c3,c4],_,[y0,y1,y2,y3,y4],_=>
  have f0:Rd w enc n 5 ((([c0,c1,c2,c3,c4]:List Value).drop 0).take (Tryz.prog.cellsOf 5)) y0:=hf 0 _ rfl;have f1:Rd w enc n 5 ((([c0,c1,c2,c3,c4]:List Value).drop 1).take (Tryz.prog.cellsOf 5)) y1:=hf 1 _ rfl;have f2:Rd w enc n 5 ((([c0,c1,c2,c3,c4]:List Value).drop 2).take (Tryz.prog.cellsOf 5)) y2:=hf 2 _ rfl;have f3:Rd w enc n 5 ((([c0,c1,c2,c3,c4]:List Value).drop 3).take (Tryz.prog.cellsOf 5)) y3:=hf 3 _ rfl;have f4:Rd w enc n 4 ((([c0,c1,c2,c3,c4]:List Value).drop 4).take (Tryz.prog.cellsOf 4)) y4:=hf 4 _ rfl;rw[ce5] at f0 f1 f2 f3;rw[ce4] at f4;obtain⟨a,ha,rfl⟩:=Y4 f0;obtain⟨b,hb,rfl⟩:=Y4 f1;obtain⟨c,hc,rfl⟩:=Y4 f2;obtain⟨d,hd,rfl⟩:=Y4 f3;obtain⟨s,e,_⟩:=DataW.trod_bool Tryz.underlying4 f4;obtain rfl:c4= .bool s:=(by simpa using e);exact⟨a,b,c,d,s,⟨ha,hb,hc,hd⟩,rfl⟩
end
end Go.Proofs.YtaffcpfhedadhaaGreatDoor
namespace Go.Proofs.YtaffcpfhedadhaaGreatDoor
open Go.ChangeShapes Go.WideShapes Go.ChangeAt Go.RowKit
def own:ownKnob Tryz.prog.godebug=none:=by kernel_rfl
noncomputable def Gw(os:Os):World:=
 let w0:=World.holding Tryz.prog os ⟨#[],#[],[]⟩
 {w0 with heap:=(w0.heap.modify 2 fun
 | .cells _ t frozen=> .cells (List.map (Value.int .u8) ([128,191,160,191,128,159,144,191,128,143]++List.replicate 22 0)).toArray t frozen
 |o=>o).modify 1 fun
 | .cells _ t frozen=> .cells (List.map (fun(z:Nat)=>Value.int .u8 z) Go.Pinned.utf8FirstZ).toArray t frozen
 |o=>o}
set_option maxRecDepth 100000 in
def qb3(os:Os)(args:Array Value):laidMet Tryz.prog [("unicode/utf8.acceptRanges",Rows.laid_unicode_utf8_acceptRanges),("unicode/utf8.first",Rows.laid_unicode_utf8_first)] ((Gw os).forCall (fun _ _=>0) ⟨#[],args,[]⟩).memory:=
 laidMet_of_run' 8 (by kernel_rfl) (by kernel_rfl)
end Go.Proofs.YtaffcpfhedadhaaGreatDoor
namespace Go.Proofs.YtaffcpfhedadhaaGreatDoor
open Go Go.RowKit Go.Via
def Ad{S:Rl->Prop}{ρ:Rl->Int}(T:fD S ρ)(kf:Nat)(keep:Bool->Bool->Bool)(hkp:∀x y,aH Tryz.prog kf #[.bool x,.bool y] (.bool (keep x y)))(h0:keep false false=false)(a:List Iv)(ab:Option Nat)(aN ac:Nat)(hac:a.length<=ac)(han:a.length<=1000)(b:List Iv)(bb:Option Nat)(bN bc:Nat)(hbc:b.length<=bc)(hbn:b.length<=1000)(ha:kw S a)(hb:kw S b)(oka:F7 ρ a)(okb:F7 ρ b)(hza:∀x∈a,kT x<=50000)(hzb:∀x∈b,kT x<=50000):bZ Tryz.prog 152 [⟨ab,61,ak dQ a,aN,false⟩,⟨bb,61,ak dQ b,bN,false⟩] [aI ab 0 a.length ac,aI bb 0 b.length bc,.func (.func kf) #[] #[]] (SR (nO keep a b).length) SR.v (fun z=>[⟨z.b,61,ak dQ (nO keep a b),z.n,true⟩]):=by
 refine⟨by kernel_rfl,fun w hL0=>?_⟩
 have hha:kw (fun x=>S x∧ik x<=50000) a:=fun i hi=>⟨⟨(ha i hi).1,Nat.le_trans (lg i) (hza i hi)⟩,(ha i hi).2,Nat.le_trans (kH i) (hza i hi)⟩
 have hhb:kw (fun x=>S x∧ik x<=50000) b:=fun i hi=>⟨⟨(hb i hi).1,Nat.le_trans (lg i) (hzb i hi)⟩,(hb i hi).2,Nat.le_trans (kH i) (hzb i hi)⟩
 refine cB3 127 Tryz.func152 hL0 ?_;refine y8 ?_;refine(Bl 2 [(0,_),(1,_)]) (qdu) (fun g0=>?_);refine A5 ?_;refine El (ι:={z:Nat×List Ku×Option Nat×Nat×Nat // z.1<=2∧z.2.1=evK a b z.1∧z.2.1.length<=z.2.2.2.2∧z.2.2.2.2*12<=z.2.2.2.1}) (fun⟨⟨k,o,ob,oN,oc⟩,hk,hI,h3,h4⟩=>([(2,.func (.func kf) #[] #[]),(7,aI ob 0 o.length oc),(23,aI (some g0) 0 2 2),(24,.int .i64 2),(25,.int .i64 ((k:Nat):Int))],[⟨ab,61,ak dQ a,aN,false⟩,⟨bb,61,ak dQ b,bN,false⟩,⟨some g0,74,[aI ab 0 a.length ac,aI bb 0 b.length bc],2,true⟩,⟨ob,253,ak jM o,oN,true⟩],2-k)) ⟨⟨0,[],none,0,0⟩,Nat.zero_le _,rfl,Nat.le_refl _,by simp⟩ ?_ (hL:=(aj [some 0,some 1,some 2,none] ⟨pR,pR,pR,⟨rfl,rfl,rfl⟩,trivial⟩ rfl rfl));rintro⟨⟨k,o,ob,oN,oc⟩,hk,hI,h3,h4⟩;(try dsimp only);replace hk:k<=2:=hk;replace hI:o=evK a b k:=hI;replace h3:o.length<=oc:=h3;replace h4:oc*12<=oN:=h4;rcases(show k=0∨k=1∨k=2 by omega) with rfl|rfl|rfl
 ·refine A6 ?_;refine Cd ?_ ?_<;>intro hb2
  ·refine A7 ?_;refine au 2 0 qiR qiL rfl rfl rfl rfl rfl (by omega) (by omega) (by simp) (by show 0+Int.toNat _*1=_;rfl) ?_;refine BC ?_;refine El (ι:={z:Nat×List Ku×Option Nat×Nat×Nat // z.1<=a.length∧z.2.1=BK (a.take z.1)∧z.2.1.length<=z.2.2.2.2∧z.2.2.2.2*12<=z.2.2.2.1}) (fun⟨⟨i,o,ob,oN,oc⟩,hi,hI,h3,h4⟩=>([(2,.func (.func kf) #[] #[]),(7,aI ob 0 o.length oc),(23,aI (some g0) 0 2 2),(24,.int .i64 2),(25,.int .i64 ((0:Nat):Int)),(8,.int .i64 ((0:Nat):Int)),(30,aI ab 0 a.length ac),(31,bV (a.length)),(32,bV i)],[⟨ab,61,ak dQ a,aN,false⟩,⟨bb,61,ak dQ b,bN,false⟩,⟨some g0,74,[aI ab 0 a.length ac,aI bb 0 b.length bc],2,true⟩,⟨ob,253,ak jM o,oN,true⟩],a.length-i)) ⟨⟨0,o,ob,oN,oc⟩,Nat.zero_le _,hI,h3,h4⟩ ?_ (hL:=eF.auto);rintro⟨⟨i,o,ob,oN,oc⟩,hi,hI,h3,h4⟩;(try dsimp only);replace hi:i<=a.length:=hi;replace hI:o=BK (a.take i):=hI;replace h3:o.length<=oc:=h3;replace h4:oc*12<=oN:=h4;have hol:o.length<=10000:=by rw[hI];simp only[List.length_append,Px,Py,List.length_take];omega
   refine A6 ?_;refine Cd ?_ ?_<;>intro hb4
   ·have hlt:i<a.length:=(by have:=of_decide_eq_true hb4;omega);obtain⟨x,hx⟩:∃x,a[i]? =some x:=⟨a[i],List.getElem?_eq_getElem hlt⟩;refine gm 0 rfl (gW.ne (by decide) (by omega)) (fun hbs=>?_);obtain⟨ga,hga⟩:=Option.isSome_iff_exists.1 hbs;replace hga:ab=some ga:=hga;subst hga;refine A6 ?_;refine au 0 ((i)*20) Z7 lL rfl rfl rfl rfl rfl (by omega) (by omega) (gW.ne (by decide) (by omega)) (by show 0+Int.toNat _*20=_;omega) ?_;refine bn (v:=mG x) 0 ((i)*20) _ rfl rfl rfl rfl lL (gW.sub hx 0 20 (by decide)) rfl (by decide) rfl ?_;refine Al 20 z61 (fun g1=>?_);refine Ss 4 ?_;refine A3 ?_;refine Dq [3000000] [0,3,1,2,4,6,7,8,5,9] ?_;refine xC 4 0 ?_;refine xC 4 0 ?_;refine Pc (uu x) ?_;refine(Bu [(0,_)]) (Ir) ?_;refine Kr 38 (EvV (x.b,0,0)) ?_;refine Pc (wE x) ?_;refine Al 12 ZW (fun g2=>?_);refine Al 12 ZW (fun g3=>?_);refine Ss 5 ?_;refine(Bu [(0,_)]) (Ir) ?_;refine Kr 41 (EvV (x.e,0,0)) ?_;refine Ss 6 ?_;refine A7 ?_;refine(Iz 10 wO sV) ?_;refine Ss 5 ?_;refine A1 ?_;refine(Iz 10 wO sV) ?_;refine Ss 6 ?_;refine A4 ?_;refine uD 5 0 ?_;refine Kr 49 (EvV (x.b,1,0)) ?_;refine uD 6 0 ?_;refine Kr 50 (EvV (x.e,-1,0)) ?_;refine(Bl 24 [(0,_),(1,_)]) (VP) (fun g4=>?_);refine(Qa (s:=12) (len:=o.length) (n2:=2) 3 7 (fun r=>[_,_,_,⟨some r.g,253,ak jM o++(jM (x.b,1,0)++jM (x.e,-1,0)),r.n,true⟩,_,_,_,_]) qdv qfy) (wC.length o) h3 h4 (fun v hv=>List.all_eq_true.1 (show(jM (x.b,1,0)++jM (x.e,-1,0)).all (·.oneCell')=true from rfl) v hv) (fun r=>?_);refine A5 ?_;refine Ar (((i+1:Nat):Int)) ?_;refine A3 ?_;exact Nl ⟨⟨i+1,o++[(x.b,1,0),(x.e,-1,0)],some r.g,r.n,r.cap⟩,hlt,by show o++_=BK (a.take (i+1));rw[<-qbz hx,<-hI],by rw[List.length_append];exact r.h,r.hn⟩ (hμ:=(by show a.length-(i+1)<a.length-i;omega)) (ht:=⟨rfl,(aB rfl (by rw[List.length_append];rfl)),rfl,rfl,rfl,rfl,rfl,rfl,rfl,trivial⟩) (hL:=(aj [some 0,some 1,some 2,some 3] ⟨pR,pR,pR,⟨_,rfl,aP (by rw[vC];rfl)⟩,trivial⟩ rfl rfl))
   ·have hge:i=a.length:=(by have:=of_decide_eq_false hb4;omega);subst hge;refine A7 ?_;refine(Aq ((0+1:Nat):Int)) (by exact(congrArg some (by rfl))) ?_;refine A3 ?_;exact Nl ⟨⟨0+1,o,ob,oN,oc⟩,(by show 0+1<=2;decide),by show o=BK a;rw[hI,List.take_length],h3,h4⟩ (hμ:=(by show 2-(0+1)<2-0;decide)) (hL:=eF.auto)
  ·exact absurd (by decide) (of_decide_eq_false hb2)
 ·refine A6 ?_;refine Cd ?_ ?_<;>intro hb2
  ·refine A7 ?_;refine au 2 1 qiR qiL rfl rfl rfl rfl rfl (by omega) (by omega) (by simp) (by show 0+Int.toNat _*1=_;rfl) ?_;refine BC ?_;refine El (ι:={z:Nat×List Ku×Option Nat×Nat×Nat // z.1<=b.length∧z.2.1=BK a++Hy (b.take z.1)∧z.2.1.length<=z.2.2.2.2∧z.2.2.2.2*12<=z.2.2.2.1}) (fun⟨⟨i,o,ob,oN,oc⟩,hi,hI,h3,h4⟩=>([(2,.func (.func kf) #[] #[]),(7,aI ob 0 o.length oc),(23,aI (some g0) 0 2 2),(24,.int .i64 2),(25,.int .i64 ((1:Nat):Int)),(8,.int .i64 ((1:Nat):Int)),(30,aI bb 0 b.length bc),(31,bV (b.length)),(32,bV i)],[⟨ab,61,ak dQ a,aN,false⟩,⟨bb,61,ak dQ b,bN,false⟩,⟨some g0,74,[aI ab 0 a.length ac,aI bb 0 b.length bc],2,true⟩,⟨ob,253,ak jM o,oN,true⟩],b.length-i)) ⟨⟨0,o,ob,oN,oc⟩,Nat.zero_le _,by rw[hI];show BK a=BK a++[];simp,h3,h4⟩ ?_ (hL:=eF.auto);rintro⟨⟨i,o,ob,oN,oc⟩,hi,hI,h3,h4⟩;(try dsimp only);replace hi:i<=b.length:=hi;replace hI:o=BK a++Hy (b.take i):=hI;replace h3:o.length<=oc:=h3;replace h4:oc*12<=oN:=h4;have hol:o.length<=10000:=by rw[hI];simp only[List.length_append,Px,Py,List.length_take];omega
   refine A6 ?_;refine Cd ?_ ?_<;>intro hb4
   ·have hlt:i<b.length:=(by have:=of_decide_eq_true hb4;omega);obtain⟨x,hx⟩:∃x,b[i]? =some x:=⟨b[i],List.getElem?_eq_getElem hlt⟩;refine gm 1 rfl (gW.ne (by decide) (by omega)) (fun hbs=>?_);obtain⟨gb,hgb⟩:=Option.isSome_iff_exists.1 hbs;replace hgb:bb=some gb:=hgb;subst hgb;refine A6 ?_;refine au 1 ((i)*20) Z7 lL rfl rfl rfl rfl rfl (by omega) (by omega) (gW.ne (by decide) (by omega)) (by show 0+Int.toNat _*20=_;omega) ?_;refine bn (v:=mG x) 1 ((i)*20) _ rfl rfl rfl rfl lL (gW.sub hx 0 20 (by decide)) rfl (by decide) rfl ?_;refine Al 20 z61 (fun g1=>?_);refine Ss 4 ?_;refine A3 ?_;refine Dq [3000000] [0,3,1,2,4,6,7,8,5,9] ?_;refine xC 4 0 ?_;refine xC 4 0 ?_;refine Pc (uu x) ?_;refine(Bu [(0,_)]) (Ir) ?_;refine Kr 38 (EvV (x.b,0,0)) ?_;refine Pc (wE x) ?_;refine Al 12 ZW (fun g2=>?_);refine Al 12 ZW (fun g3=>?_);refine Ss 5 ?_;refine(Bu [(0,_)]) (Ir) ?_;refine Kr 41 (EvV (x.e,0,0)) ?_;refine Ss 6 ?_;refine A7 ?_;refine(Iz 11 wO sV) ?_;refine Ss 5 ?_;refine A1 ?_;refine(Iz 11 wO sV) ?_;refine Ss 6 ?_;refine A4 ?_;refine uD 5 0 ?_;refine Kr 49 (EvV (x.b,0,1)) ?_;refine uD 6 0 ?_;refine Kr 50 (EvV (x.e,0,-1)) ?_;refine(Bl 24 [(0,_),(1,_)]) (VP) (fun g4=>?_);refine(Qa (s:=12) (len:=o.length) (n2:=2) 3 7 (fun r=>[_,_,_,⟨some r.g,253,ak jM o++(jM (x.b,0,1)++jM (x.e,0,-1)),r.n,true⟩,_,_,_,_]) qdv qfy) (wC.length o) h3 h4 (fun v hv=>List.all_eq_true.1 (show(jM (x.b,0,1)++jM (x.e,0,-1)).all (·.oneCell')=true from rfl) v hv) (fun r=>?_);refine A5 ?_;refine Ar (((i+1:Nat):Int)) ?_;refine A3 ?_;exact Nl ⟨⟨i+1,o++[(x.b,0,1),(x.e,0,-1)],some r.g,r.n,r.cap⟩,hlt,by show o++_=BK a++Hy (b.take (i+1));rw[<-qbA hx,<-List.append_assoc,<-hI],by rw[List.length_append];exact r.h,r.hn⟩ (hμ:=(by show b.length-(i+1)<b.length-i;omega)) (ht:=⟨rfl,(aB rfl (by rw[List.length_append];rfl)),rfl,rfl,rfl,rfl,rfl,rfl,rfl,trivial⟩) (hL:=(aj [some 0,some 1,some 2,some 3] ⟨pR,pR,pR,⟨_,rfl,aP (by rw[vC];rfl)⟩,trivial⟩ rfl rfl))
   ·have hge:i=b.length:=(by have:=of_decide_eq_false hb4;omega);subst hge;refine A7 ?_;refine(Aq ((1+1:Nat):Int)) (by exact(congrArg some (by rfl))) ?_;refine A3 ?_;exact Nl ⟨⟨1+1,o,ob,oN,oc⟩,(by show 1+1<=2;decide),by show o=BK a++Hy b;rw[hI,List.take_length],h3,h4⟩ (hμ:=(by show 2-(1+1)<2-1;decide)) (hL:=eF.auto)
  ·exact absurd (by decide) (of_decide_eq_false hb2)
 ·refine A6 ?_;refine Cd ?_ ?_<;>intro hb2
  ·exact absurd (of_decide_eq_true hb2) (by decide)
  ·refine A6 ?_;refine lT ?_;refine A1 ?_;have hp0:o=BK a++Hy b:=hI;have hol:o.length<=10000:=by rw[hp0,List.length_append,Px,Py];omega
   have hos:∀e∈o,S e.1.1∧ik e.1.1<=50000:=fun e he=>by rw[hp0] at he;exact qju (S:=fun x=>S x∧ik x<=50000) hha hhb he
   refine Gm 1 [3] [] (fun z=>[_,_,_,⟨ob,253,ak jM z.1,oN,true⟩]) (qbI T o ob oN oc h3 h4 hos) (fun z=>?_);obtain⟨l2,hp2,hs2⟩:=z;have hl2:l2.length=o.length:=hp2.length_eq;have hev:∀e∈l2,(S e.1.1∧ik e.1.1<=50000)∧ -1<=e.2.1∧e.2.1<=1∧ -1<=e.2.2∧e.2.2<=1:=fun e he=>by
    have he':=hp2.subset he;refine⟨hos e he',?_⟩;rw[hp0] at he';obtain⟨_,h1,h2⟩:=qbB he';exact⟨h1.1,h1.2,h2.1,h2.2⟩
   rw[hp0] at hp2;refine A9 ?_;refine Al 2 qkA (fun g1=>?_);refine A4 ?_;refine Al 10 qgr (fun g2=>?_);refine KZ ?_;refine El (ι:={z:Nat×Int×Int×Bool×ru×List Iv×Option Nat×Nat×Nat // z.1<=l2.length∧(-(z.1:Int)<=z.2.1∧z.2.1<=z.1)∧(-(z.1:Int)<=z.2.2.1∧z.2.2.1<=z.1)∧nO keep a b=z.2.2.2.2.2.1++Y3 (aY ρ) keep l2 z.1 z.2.1 z.2.2.1 z.2.2.2.1 z.2.2.2.2.1∧z.2.2.2.2.2.1.length<=z.1∧z.2.2.2.2.2.1.length<=z.2.2.2.2.2.2.2.2∧z.2.2.2.2.2.2.2.2*20<=z.2.2.2.2.2.2.2.1}) (fun⟨⟨i,m,n,inn,fb,q,qb,qN,qc⟩,hi,hm,hn,hI2,hq,h5,h6⟩=>([(2,.func (.func kf) #[] #[]),(7,aI ob 0 l2.length oc),(14,aI qb 0 q.length qc),(15,gU g1),(16,gU g2),(17,.bool inn),(57,aI ob 0 l2.length oc),(58,bV (l2.length)),(59,bV i)],[⟨ab,61,ak dQ a,aN,false⟩,⟨bb,61,ak dQ b,bN,false⟩,⟨some g0,74,[aI ab 0 a.length ac,aI bb 0 b.length bc],2,true⟩,⟨ob,253,ak jM l2,oN,true⟩,⟨some g1,251,[.int .i64 m,.int .i64 n],2,true⟩,⟨some g2,209,vT fb,10,true⟩,⟨qb,61,ak dQ q,qN,true⟩],l2.length-i)) ⟨⟨0,0,0,false,(rl 0,false),[],none,0,0⟩,Nat.zero_le _,by decide,by decide,(qbE T h0 ha hb oka okb hp2 hs2 _).symm,Nat.le_refl _,Nat.le_refl _,by simp⟩ ?_ (ht:=⟨rfl,(aB rfl (by rw[hl2])),rfl,rfl,rfl,rfl,(aB rfl (by rw[hl2])),(aB rfl (by rw[hl2])),rfl,trivial⟩) (hL:=(aj [some 0,some 1,some 2,some 3,some 4,some 5,none] ⟨pR,pR,pR,pR,pR,⟨_,rfl,aP (by rw[qhG];rfl)⟩,⟨rfl,rfl,rfl⟩,trivial⟩ rfl rfl));rintro⟨⟨i,m,n,inn,fb,q,qb,qN,qc⟩,hi,hm,hn,hI2,hq,h5,h6⟩;(try dsimp only);replace hi:i<=l2.length:=hi;replace hm: -(i:Int)<=m∧m<=i:=hm;replace hn: -(i:Int)<=n∧n<=i:=hn;replace hI2:nO keep a b=q++Y3 (aY ρ) keep l2 i m n inn fb:=hI2;replace hq:q.length<=i:=hq;replace h5:q.length<=qc:=h5;replace h6:qc*20<=qN:=h6;refine A6 ?_;refine Cd ?_ ?_<;>intro hb4
   ·have hlt:i<l2.length:=(by have:=of_decide_eq_true hb4;omega);obtain⟨x,hx⟩:∃x,l2[i]? =some x:=⟨l2[i],List.getElem?_eq_getElem hlt⟩;obtain⟨hex,hx1,hx2,hx3,hx4⟩:=hev x (List.mem_of_getElem? hx);refine gm 3 rfl (wC.ne (by decide) (by omega)) (fun hbs=>?_);obtain⟨go,hgo⟩:=Option.isSome_iff_exists.1 hbs;replace hgo:ob=some go:=hgo;subst hgo;refine A7 ?_;refine au 3 ((i)*12) qdv ZV rfl rfl rfl rfl rfl (by omega) (by omega) (wC.ne (by decide) (by omega)) (by show 0+Int.toNat _*12=_;omega) ?_;refine bn (v:=EvV x) 3 ((i)*12) _ rfl rfl rfl rfl ZV (wC.sub hx 0 12 (by decide)) rfl (by decide) rfl ?_;refine Al 12 ZW (fun g3=>?_);refine A1 ?_;refine Ss 7 ?_;refine A3 ?_;let sX:List (Nat×Value)->List (Nat×Value):=fun l=>(2,.func (.func kf) #[] #[])::(7,aI (some go) 0 l2.length oc)::(14,aI qb 0 q.length qc)::(15,gU g1)::(16,gU g2)::(17,.bool inn)::(57,aI (some go) 0 l2.length oc)::(58,bV (l2.length))::(59,bV i)::(18,bV i)::(19,gU g3)::l;let sY:List aF->List aF:=fun l=>⟨ab,61,ak dQ a,aN,false⟩::⟨bb,61,ak dQ b,bN,false⟩::⟨some g0,74,[aI ab 0 a.length ac,aI bb 0 b.length bc],2,true⟩::⟨some go,253,ak jM l2,oN,true⟩::l;refine MI (nt:=127) (Z:=Unit) (fun _=>sX []) (fun _=>sY [⟨some g1,251,[.int .i64 (m+x.2.1),.int .i64 (n+x.2.2)],2,true⟩,⟨some g2,209,vT fb,10,true⟩,⟨qb,61,ak dQ q,qN,true⟩,⟨some g3,253,jM x,12,true⟩]) 16 [0,1,2,3,4,5,6,7,8,9,10,11,12,13,14,15] mixed (by kernel_rfl) (fun hd0=>?_) ?_
    ·refine iH (nt:=127) (Z:=Unit) (fun _=>sX [(75,.int .i64 (n+x.2.2)),(77,.pointer (some ⟨g1,1,none⟩))]) (fun _=>sY [⟨some g1,251,[.int .i64 (m+x.2.1),.int .i64 (n)],2,true⟩,⟨some g2,209,vT fb,10,true⟩,⟨qb,61,ak dQ q,qN,true⟩,⟨some g3,253,jM x,12,true⟩]) 1 [15] (fun z=>?_) (fun hd1=>?_)
     ·(try dsimp only);refine Nd1 15 ?_
      ·refine Ss 4 ?_;refine A1 ?_;exact Nw hd0 () [0,1,2,3,4,5,6,7]
     refine iH (nt:=127) (Z:=Unit) (fun _=>sX [(69,.int .i64 (m+x.2.1)),(75,.int .i64 (n+x.2.2)),(76,gU g1)]) (fun _=>sY [⟨some g1,251,[.int .i64 m,.int .i64 n],2,true⟩,⟨some g2,209,vT fb,10,true⟩,⟨qb,61,ak dQ q,qN,true⟩,⟨some g3,253,jM x,12,true⟩]) 3 [13,14,15] (fun z=>?_) (fun hd2=>?_)
     ·(try dsimp only);refine Nd1 13 ?_
      ·refine Ss 4 ?_;refine A1 ?_;refine Nt 14 ?_;refine(Iz 1 wO sV) ?_;refine A1 ?_;exact Nw hd1 () [0,1,2,3,4,5,6,7]
     refine iH (nt:=127) (Z:=Unit) (fun _=>sX [(71,.int .i64 n),(73,.pointer (some ⟨g3,11,none⟩))]) (fun _=>sY [⟨some g1,251,[.int .i64 (m+x.2.1),.int .i64 (n)],2,true⟩,⟨some g2,209,vT fb,10,true⟩,⟨qb,61,ak dQ q,qN,true⟩,⟨some g3,253,jM x,12,true⟩]) 4 [10,11,14,15] (fun z=>?_) (fun hd3=>?_)
     ·(try dsimp only);refine Nd1 10 ?_
      ·refine A2 ?_;refine Nt 11 ?_;refine(Aq (n+x.2.2)) (by exact(congrArg some (wi (by omega) (by omega) rfl))) ?_;refine A1 ?_;refine Nt 14 ?_;refine(Iz 1 wO sV) ?_;refine A1 ?_;exact Nw hd1 () [0,1,2,3,4,5,6,7]
     refine iH (nt:=127) (Z:=Unit) (fun _=>sX [(69,.int .i64 (m+x.2.1)),(71,.int .i64 n),(73,.pointer (some ⟨g3,11,none⟩)),(76,gU g1)]) (fun _=>sY [⟨some g1,251,[.int .i64 m,.int .i64 n],2,true⟩,⟨some g2,209,vT fb,10,true⟩,⟨qb,61,ak dQ q,qN,true⟩,⟨some g3,253,jM x,12,true⟩]) 5 [10,11,13,14,15] (fun z=>?_) (fun hd4=>?_)
     ·(try dsimp only);refine jF [10,13] (by kernel_rfl) rfl ⟨⟨_,rfl,?_⟩,⟨_,rfl,?_⟩,trivial⟩
      ·refine A2 ?_;refine Nt 11 ?_;refine(Aq (n+x.2.2)) (by exact(congrArg some (wi (by omega) (by omega) rfl))) ?_;refine A1 ?_;exact Nw hd2 () [0,1,2,3,4,5,6,7]
      ·refine Ss 4 ?_;refine A1 ?_;exact Nw hd3 () [0,1,2,3,4,5,6,7]
     refine iH (nt:=127) (Z:=Unit) (fun _=>sX [(64,gU g1),(68,.int .i64 x.2.1),(75,.int .i64 (n+x.2.2))]) (fun _=>sY [⟨some g1,251,[.int .i64 m,.int .i64 n],2,true⟩,⟨some g2,209,vT fb,10,true⟩,⟨qb,61,ak dQ q,qN,true⟩,⟨some g3,253,jM x,12,true⟩]) 6 [1,5,12,13,14,15] (fun z=>?_) (fun hd5=>?_)
     ·(try dsimp only);refine Nd1 1 ?_
      ·refine A2 ?_;refine Nt 5 ?_;refine(Aq (m+x.2.1)) (by exact(congrArg some (wi (by omega) (by omega) rfl))) ?_;refine A1 ?_;refine Nt 12 ?_;refine(Iz 0 wO sV) ?_;refine A1 ?_;exact Nw hd2 () [0,1,2,3,4,5,6,7]
     refine iH (nt:=127) (Z:=Unit) (fun _=>sX [(65,.int .i64 m),(67,.pointer (some ⟨g3,10,none⟩)),(75,.int .i64 (n+x.2.2))]) (fun _=>sY [⟨some g1,251,[.int .i64 m,.int .i64 n],2,true⟩,⟨some g2,209,vT fb,10,true⟩,⟨qb,61,ak dQ q,qN,true⟩,⟨some g3,253,jM x,12,true⟩]) 6 [4,5,12,13,14,15] (fun z=>?_) (fun hd6=>?_)
     ·(try dsimp only);refine Nd1 4 ?_
      ·refine A2 ?_;refine Nt 5 ?_;refine(Aq (m+x.2.1)) (by exact(congrArg some (wi (by omega) (by omega) rfl))) ?_;refine A1 ?_;refine Nt 12 ?_;refine(Iz 0 wO sV) ?_;refine A1 ?_;exact Nw hd2 () [0,1,2,3,4,5,6,7]
     refine iH (nt:=127) (Z:=Unit) (fun _=>sX [(69,.int .i64 (m+x.2.1)),(70,.pointer (some ⟨g1,1,none⟩)),(74,.int .i64 x.2.2)]) (fun _=>sY [⟨some g1,251,[.int .i64 m,.int .i64 n],2,true⟩,⟨some g2,209,vT fb,10,true⟩,⟨qb,61,ak dQ q,qN,true⟩,⟨some g3,253,jM x,12,true⟩]) 6 [7,11,12,13,14,15] (fun z=>?_) (fun hd7=>?_)
     ·(try dsimp only);refine Nd1 7 ?_
      ·refine A2 ?_;refine Nt 11 ?_;refine(Aq (n+x.2.2)) (by exact(congrArg some (wi (by omega) (by omega) rfl))) ?_;refine A1 ?_;refine Nt 12 ?_;refine(Iz 0 wO sV) ?_;refine A1 ?_;exact Nw hd2 () [0,1,2,3,4,5,6,7]
     refine iH (nt:=127) (Z:=Unit) (fun _=>sX [(64,gU g1),(67,.pointer (some ⟨g3,10,none⟩)),(75,.int .i64 (n+x.2.2))]) (fun _=>sY [⟨some g1,251,[.int .i64 m,.int .i64 n],2,true⟩,⟨some g2,209,vT fb,10,true⟩,⟨qb,61,ak dQ q,qN,true⟩,⟨some g3,253,jM x,12,true⟩]) 7 [1,4,5,12,13,14,15] (fun z=>?_) (fun hd8=>?_)
     ·(try dsimp only);refine jF [1,4] (by kernel_rfl) rfl ⟨⟨_,rfl,?_⟩,⟨_,rfl,?_⟩,trivial⟩
      ·refine A2 ?_;exact Nw hd6 () [0,1,2,3,4,5,6,7]
      ·refine A2 ?_;exact Nw hd5 () [0,1,2,3,4,5,6,7]
     refine iH (nt:=127) (Z:=Unit) (fun _=>sX [(69,.int .i64 (m+x.2.1)),(70,.pointer (some ⟨g1,1,none⟩)),(73,.pointer (some ⟨g3,11,none⟩))]) (fun _=>sY [⟨some g1,251,[.int .i64 m,.int .i64 n],2,true⟩,⟨some g2,209,vT fb,10,true⟩,⟨qb,61,ak dQ q,qN,true⟩,⟨some g3,253,jM x,12,true⟩]) 7 [7,10,11,12,13,14,15] (fun z=>?_) (fun hd9=>?_)
     ·(try dsimp only);refine jF [7,10] (by kernel_rfl) rfl ⟨⟨_,rfl,?_⟩,⟨_,rfl,?_⟩,trivial⟩
      ·refine A2 ?_;refine Nt 12 ?_;refine(Iz 0 wO sV) ?_;refine A1 ?_;exact Nw hd4 () [0,1,2,3,4,5,6,7]
      ·refine A2 ?_;exact Nw hd7 () [0,1,2,3,4,5,6,7]
     refine iH (nt:=127) (Z:=Unit) (fun _=>sX [(64,gU g1),(68,.int .i64 x.2.1),(70,.pointer (some ⟨g1,1,none⟩)),(74,.int .i64 x.2.2)]) (fun _=>sY [⟨some g1,251,[.int .i64 m,.int .i64 n],2,true⟩,⟨some g2,209,vT fb,10,true⟩,⟨qb,61,ak dQ q,qN,true⟩,⟨some g3,253,jM x,12,true⟩]) 8 [1,5,7,11,12,13,14,15] (fun z=>?_) (fun hd10=>?_)
     ·(try dsimp only);refine jF [1,7] (by kernel_rfl) rfl ⟨⟨_,rfl,?_⟩,⟨_,rfl,?_⟩,trivial⟩
      ·refine A2 ?_;refine Nt 5 ?_;refine(Aq (m+x.2.1)) (by exact(congrArg some (wi (by omega) (by omega) rfl))) ?_;refine A1 ?_;exact Nw hd7 () [0,1,2,3,4,5,6,7]
      ·refine A2 ?_;refine Nt 11 ?_;refine(Aq (n+x.2.2)) (by exact(congrArg some (wi (by omega) (by omega) rfl))) ?_;refine A1 ?_;exact Nw hd5 () [0,1,2,3,4,5,6,7]
     refine iH (nt:=127) (Z:=Unit) (fun _=>sX [(64,gU g1),(68,.int .i64 x.2.1),(71,.int .i64 n),(73,.pointer (some ⟨g3,11,none⟩))]) (fun _=>sY [⟨some g1,251,[.int .i64 m,.int .i64 n],2,true⟩,⟨some g2,209,vT fb,10,true⟩,⟨qb,61,ak dQ q,qN,true⟩,⟨some g3,253,jM x,12,true⟩]) 8 [1,5,10,11,12,13,14,15] (fun z=>?_) (fun hd11=>?_)
     ·(try dsimp only);refine jF [1,10] (by kernel_rfl) rfl ⟨⟨_,rfl,?_⟩,⟨_,rfl,?_⟩,trivial⟩
      ·refine A2 ?_;refine Nt 5 ?_;refine(Aq (m+x.2.1)) (by exact(congrArg some (wi (by omega) (by omega) rfl))) ?_;refine A1 ?_;refine Nt 12 ?_;refine(Iz 0 wO sV) ?_;refine A1 ?_;exact Nw hd4 () [0,1,2,3,4,5,6,7]
      ·refine A2 ?_;refine Nt 11 ?_;refine(Aq (n+x.2.2)) (by exact(congrArg some (wi (by omega) (by omega) rfl))) ?_;refine A1 ?_;exact Nw hd5 () [0,1,2,3,4,5,6,7]
     refine iH (nt:=127) (Z:=Unit) (fun _=>sX [(65,.int .i64 m),(67,.pointer (some ⟨g3,10,none⟩)),(70,.pointer (some ⟨g1,1,none⟩)),(74,.int .i64 x.2.2)]) (fun _=>sY [⟨some g1,251,[.int .i64 m,.int .i64 n],2,true⟩,⟨some g2,209,vT fb,10,true⟩,⟨qb,61,ak dQ q,qN,true⟩,⟨some g3,253,jM x,12,true⟩]) 8 [4,5,7,11,12,13,14,15] (fun z=>?_) (fun hd12=>?_)
     ·(try dsimp only);refine jF [4,7] (by kernel_rfl) rfl ⟨⟨_,rfl,?_⟩,⟨_,rfl,?_⟩,trivial⟩
      ·refine A2 ?_;refine Nt 5 ?_;refine(Aq (m+x.2.1)) (by exact(congrArg some (wi (by omega) (by omega) rfl))) ?_;refine A1 ?_;exact Nw hd7 () [0,1,2,3,4,5,6,7]
      ·refine A2 ?_;refine Nt 11 ?_;refine(Aq (n+x.2.2)) (by exact(congrArg some (wi (by omega) (by omega) rfl))) ?_;refine A1 ?_;exact Nw hd6 () [0,1,2,3,4,5,6,7]
     refine iH (nt:=127) (Z:=Unit) (fun _=>sX [(65,.int .i64 m),(67,.pointer (some ⟨g3,10,none⟩)),(71,.int .i64 n),(73,.pointer (some ⟨g3,11,none⟩))]) (fun _=>sY [⟨some g1,251,[.int .i64 m,.int .i64 n],2,true⟩,⟨some g2,209,vT fb,10,true⟩,⟨qb,61,ak dQ q,qN,true⟩,⟨some g3,253,jM x,12,true⟩]) 8 [4,5,10,11,12,13,14,15] (fun z=>?_) (fun hd13=>?_)
     ·(try dsimp only);refine jF [4,10] (by kernel_rfl) rfl ⟨⟨_,rfl,?_⟩,⟨_,rfl,?_⟩,trivial⟩
      ·refine A2 ?_;refine Nt 5 ?_;refine(Aq (m+x.2.1)) (by exact(congrArg some (wi (by omega) (by omega) rfl))) ?_;refine A1 ?_;refine Nt 12 ?_;refine(Iz 0 wO sV) ?_;refine A1 ?_;exact Nw hd4 () [0,1,2,3,4,5,6,7]
      ·refine A2 ?_;refine Nt 11 ?_;refine(Aq (n+x.2.2)) (by exact(congrArg some (wi (by omega) (by omega) rfl))) ?_;refine A1 ?_;exact Nw hd6 () [0,1,2,3,4,5,6,7]
     refine iH (nt:=127) (Z:=Unit) (fun _=>sX [(64,gU g1),(67,.pointer (some ⟨g3,10,none⟩)),(70,.pointer (some ⟨g1,1,none⟩)),(74,.int .i64 x.2.2)]) (fun _=>sY [⟨some g1,251,[.int .i64 m,.int .i64 n],2,true⟩,⟨some g2,209,vT fb,10,true⟩,⟨qb,61,ak dQ q,qN,true⟩,⟨some g3,253,jM x,12,true⟩]) 9 [1,4,5,7,11,12,13,14,15] (fun z=>?_) (fun hd14=>?_)
     ·(try dsimp only);refine jF [1,4,7] (by kernel_rfl) rfl ⟨⟨_,rfl,?_⟩,⟨_,rfl,?_⟩,⟨_,rfl,?_⟩,trivial⟩
      ·refine A2 ?_;exact Nw hd12 () [0,1,2,3,4,5,6,7]
      ·refine A2 ?_;exact Nw hd10 () [0,1,2,3,4,5,6,7]
      ·refine A2 ?_;refine Nt 11 ?_;refine(Aq (n+x.2.2)) (by exact(congrArg some (wi (by omega) (by omega) rfl))) ?_;refine A1 ?_;exact Nw hd8 () [0,1,2,3,4,5,6,7]
     refine iH (nt:=127) (Z:=Unit) (fun _=>sX [(64,gU g1),(67,.pointer (some ⟨g3,10,none⟩)),(71,.int .i64 n),(73,.pointer (some ⟨g3,11,none⟩))]) (fun _=>sY [⟨some g1,251,[.int .i64 m,.int .i64 n],2,true⟩,⟨some g2,209,vT fb,10,true⟩,⟨qb,61,ak dQ q,qN,true⟩,⟨some g3,253,jM x,12,true⟩]) 9 [1,4,5,10,11,12,13,14,15] (fun z=>?_) (fun hd15=>?_)
     ·(try dsimp only);refine jF [1,4,10] (by kernel_rfl) rfl ⟨⟨_,rfl,?_⟩,⟨_,rfl,?_⟩,⟨_,rfl,?_⟩,trivial⟩
      ·refine A2 ?_;exact Nw hd13 () [0,1,2,3,4,5,6,7]
      ·refine A2 ?_;exact Nw hd11 () [0,1,2,3,4,5,6,7]
      ·refine A2 ?_;refine Nt 11 ?_;refine(Aq (n+x.2.2)) (by exact(congrArg some (wi (by omega) (by omega) rfl))) ?_;refine A1 ?_;exact Nw hd8 () [0,1,2,3,4,5,6,7]
     refine iH (nt:=127) (Z:=Unit) (fun _=>sX [(64,gU g1),(68,.int .i64 x.2.1),(70,.pointer (some ⟨g1,1,none⟩)),(73,.pointer (some ⟨g3,11,none⟩))]) (fun _=>sY [⟨some g1,251,[.int .i64 m,.int .i64 n],2,true⟩,⟨some g2,209,vT fb,10,true⟩,⟨qb,61,ak dQ q,qN,true⟩,⟨some g3,253,jM x,12,true⟩]) 9 [1,5,7,10,11,12,13,14,15] (fun z=>?_) (fun hd16=>?_)
     ·(try dsimp only);refine jF [1,7,10] (by kernel_rfl) rfl ⟨⟨_,rfl,?_⟩,⟨_,rfl,?_⟩,⟨_,rfl,?_⟩,trivial⟩
      ·refine A2 ?_;refine Nt 5 ?_;refine(Aq (m+x.2.1)) (by exact(congrArg some (wi (by omega) (by omega) rfl))) ?_;refine A1 ?_;exact Nw hd9 () [0,1,2,3,4,5,6,7]
      ·refine A2 ?_;exact Nw hd11 () [0,1,2,3,4,5,6,7]
      ·refine A2 ?_;exact Nw hd10 () [0,1,2,3,4,5,6,7]
     refine iH (nt:=127) (Z:=Unit) (fun _=>sX [(65,.int .i64 m),(67,.pointer (some ⟨g3,10,none⟩)),(70,.pointer (some ⟨g1,1,none⟩)),(73,.pointer (some ⟨g3,11,none⟩))]) (fun _=>sY [⟨some g1,251,[.int .i64 m,.int .i64 n],2,true⟩,⟨some g2,209,vT fb,10,true⟩,⟨qb,61,ak dQ q,qN,true⟩,⟨some g3,253,jM x,12,true⟩]) 9 [4,5,7,10,11,12,13,14,15] (fun z=>?_) (fun hd17=>?_)
     ·(try dsimp only);refine jF [4,7,10] (by kernel_rfl) rfl ⟨⟨_,rfl,?_⟩,⟨_,rfl,?_⟩,⟨_,rfl,?_⟩,trivial⟩
      ·refine A2 ?_;refine Nt 5 ?_;refine(Aq (m+x.2.1)) (by exact(congrArg some (wi (by omega) (by omega) rfl))) ?_;refine A1 ?_;exact Nw hd9 () [0,1,2,3,4,5,6,7]
      ·refine A2 ?_;exact Nw hd13 () [0,1,2,3,4,5,6,7]
      ·refine A2 ?_;exact Nw hd12 () [0,1,2,3,4,5,6,7]
     refine Nt 0 ?_;refine(Iz 0 wO sV) ?_;refine A1 ?_;refine Nt 2 ?_;refine Fg 0 10 ?_;refine A1 ?_;refine Nt 3 ?_;refine(Iz 10 wO sV) ?_;refine A1 ?_;refine Nt 6 ?_;refine(Iz 1 wO sV) ?_;refine A1 ?_;refine Nt 8 ?_;refine Fg 0 10 ?_;refine A1 ?_;refine Nt 9 ?_;refine(Iz 11 wO sV) ?_;refine A1 ?_;refine jF [1,4,7,10] (by kernel_rfl) rfl ⟨⟨_,rfl,?_⟩,⟨_,rfl,?_⟩,⟨_,rfl,?_⟩,⟨_,rfl,?_⟩,trivial⟩
     ·refine A2 ?_;exact Nw hd17 () [0,1,2,3,4,5,6,7]
     ·refine A2 ?_;exact Nw hd16 () [0,1,2,3,4,5,6,7]
     ·refine A2 ?_;exact Nw hd15 () [0,1,2,3,4,5,6,7]
     ·refine A2 ?_;exact Nw hd14 () [0,1,2,3,4,5,6,7]
    intro _;show At _ ⟨127,[(2,.func (.func kf) #[] #[]),(7,aI (some go) 0 l2.length oc),(14,aI qb 0 q.length qc),(15,gU g1),(16,gU g2),(17,.bool inn),(57,aI (some go) 0 l2.length oc),(58,bV (l2.length)),(59,bV i),(18,bV i),(19,gU g3)],[⟨ab,61,ak dQ a,aN,false⟩,⟨bb,61,ak dQ b,bN,false⟩,⟨some g0,74,[aI ab 0 a.length ac,aI bb 0 b.length bc],2,true⟩,⟨some go,253,ak jM l2,oN,true⟩,⟨some g1,251,[.int .i64 (m+x.2.1),.int .i64 (n+x.2.2)],2,true⟩,⟨some g2,209,vT fb,10,true⟩,⟨qb,61,ak dQ q,qN,true⟩,⟨some g3,253,jM x,12,true⟩]⟩ _;refine A3 ?_;refine Di [] ?_;refine A1 ?_;refine Ar (((i+1:Nat):Int)) ?_;refine A4 ?_;refine Rs 83 ?_ ?_<;>intro hb5
    ·have hjt:i+1<l2.length:=(by have:=of_decide_eq_true hb5;omega);obtain⟨y,hy⟩:∃y,l2[i+1]? =some y:=⟨l2[i+1],List.getElem?_eq_getElem hjt⟩;have hey:=(hev y (List.mem_of_getElem? hy)).1;refine A1 ?_;refine VT 7 0 ?_;refine A2 ?_;refine Ar (((i+1:Nat):Int)) ?_;refine au 3 ((i+1)*12) qdv ZV rfl rfl rfl rfl rfl (by omega) (by omega) (wC.ne (by decide) (by omega)) (by show 0+Int.toNat _*12=_;omega) ?_;refine Fg ((i+1)*12) 0 ?_;refine bn (v:=BdV y.1) 3 ((i+1)*12+0) _ rfl rfl rfl rfl qiM (wC.sub hy 0 10 (by decide)) rfl (by decide) rfl ?_;refine Pc (qE x.1 y.1 hex.2 hey.2) ?_;refine A4 ?_;refine Cd ?_ ?_<;>intro hb6
     ·have hc0:vS x.1 y.1=0:=eq_of_beq hb6;refine A5 ?_;refine Ar (((i+1:Nat):Int)) ?_;refine A3 ?_;exact Nl ⟨⟨i+1,m+x.2.1,n+x.2.2,inn,fb,q,qb,qN,qc⟩,hlt,by show-((i+1:Nat):Int)<=m+x.2.1∧m+x.2.1<=((i+1:Nat):Int);omega,by show-((i+1:Nat):Int)<=n+x.2.2∧n+x.2.2<=((i+1:Nat):Int);omega,by rw[<-qbG T hx hy hex.1 hey.1 hc0];exact hI2,Nat.le_succ_of_le hq,h5,h6⟩ (hμ:=(by show l2.length-(i+1)<l2.length-i;omega)) (hL:=eF.auto)
     ·have hc0:vS x.1 y.1≠0:=ne_of_beq_false hb6;have hfar:=qhF T hy hex.1 hey.1 hc0;refine A5 ?_;refine(Iz 0 wO sV) ?_;refine A2 ?_;refine(Iz 1 wO sV) ?_;refine A2 ?_;refine fO [_,_] rfl rfl rfl rfl (hkp _ _) ?_;refine A9 ?_;refine Rs 105 ?_ ?_<;>intro hb7
      ·have hnow:keep (decide (0<m+x.2.1)) (decide (0<n+x.2.2))=true:=hb7;refine A6 ?_;refine Cd ?_ ?_<;>intro hb8
       ·have hin:inn=false:=by have e:=hb8;simpa using e
        refine A2 ?_;refine VT 7 0 ?_;refine Ss 5 ?_;refine kL ?_;refine Ar (((i+1:Nat):Int)) ?_;refine A3 ?_;exact Nl ⟨⟨i+1,m+x.2.1,n+x.2.2,true,x.1,q,qb,qN,qc⟩,hlt,by show-((i+1:Nat):Int)<=m+x.2.1∧m+x.2.1<=((i+1:Nat):Int);omega,by show-((i+1:Nat):Int)<=n+x.2.2∧n+x.2.2<=((i+1:Nat):Int);omega,by rw[hI2,Aa hx hfar hnow];rw[hin];rfl,Nat.le_succ_of_le hq,h5,h6⟩ (hμ:=(by show l2.length-(i+1)<l2.length-i;omega)) (ht:=⟨rfl,rfl,rfl,rfl,rfl,(aB rfl (congrArg Value.bool hnow)),rfl,rfl,rfl,trivial⟩) (hL:=eF.auto)
       ·have hin:inn=true:=by have e:=hb8;simpa using e
        refine A5 ?_;refine Rs 114 ?_ ?_<;>intro hb9
        ·exact absurd hb9 (by rw[hnow];decide)
        ·refine KZ ?_;refine Ar (((i+1:Nat):Int)) ?_;refine A3 ?_;exact Nl ⟨⟨i+1,m+x.2.1,n+x.2.2,true,fb,q,qb,qN,qc⟩,hlt,by show-((i+1:Nat):Int)<=m+x.2.1∧m+x.2.1<=((i+1:Nat):Int);omega,by show-((i+1:Nat):Int)<=n+x.2.2∧n+x.2.2<=((i+1:Nat):Int);omega,by rw[hI2,Aa hx hfar hnow];rw[hin];rfl,Nat.le_succ_of_le hq,h5,h6⟩ (hμ:=(by show l2.length-(i+1)<l2.length-i;omega)) (ht:=⟨rfl,rfl,rfl,rfl,rfl,(aB rfl (congrArg Value.bool hnow)),rfl,rfl,rfl,trivial⟩) (hL:=eF.auto)
      ·have hnow:keep (decide (0<m+x.2.1)) (decide (0<n+x.2.2))=false:=hb7;refine lK ?_;refine Rs 114 ?_ ?_<;>intro hb8
       ·refine A5 ?_;refine Cd ?_ ?_<;>intro hb9
        ·have hin:inn=true:=hb9;refine A2 ?_;refine VT 5 0 ?_;refine A1 ?_;refine VT 7 0 ?_;refine Pc (xx fb x.1) ?_;refine(Bl 20 [(0,_)]) (xU) (fun g4=>?_);refine(Qa (s:=20) (len:=q.length) (n2:=1) 6 8 (fun r=>[_,_,_,_,_,_,⟨some r.g,61,ak dQ q++dQ (Hw fb x.1),r.n,true⟩,_,_]) Z7 XX) (gW.length q) h5 h6 (gW.one (Hw fb x.1)) (fun r=>?_);refine qf ?_;refine Ar (((i+1:Nat):Int)) ?_;refine A3 ?_;exact Nl ⟨⟨i+1,m+x.2.1,n+x.2.2,false,fb,q++[Hw fb x.1],some r.g,r.n,r.cap⟩,hlt,by show-((i+1:Nat):Int)<=m+x.2.1∧m+x.2.1<=((i+1:Nat):Int);omega,by show-((i+1:Nat):Int)<=n+x.2.2∧n+x.2.2<=((i+1:Nat):Int);omega,by rw[hI2,Aa hx hfar hnow];rw[hin,List.append_assoc];rfl,by rw[List.length_append];exact Nat.succ_le_succ hq,by rw[List.length_append];exact r.h,r.hn⟩ (hμ:=(by show l2.length-(i+1)<l2.length-i;omega)) (ht:=⟨rfl,rfl,(aB rfl (by rw[List.length_append];rfl)),rfl,rfl,(aB rfl (congrArg Value.bool hnow)),rfl,rfl,rfl,trivial⟩) (hL:=(aj [some 0,some 1,some 2,some 3,some 4,some 5,some 6] ⟨pR,pR,pR,pR,pR,pR,⟨_,rfl,aP (by rw[bD])⟩,trivial⟩ rfl rfl))
        ·have hin:inn=false:=hb9;refine kL ?_;refine Ar (((i+1:Nat):Int)) ?_;refine A3 ?_;exact Nl ⟨⟨i+1,m+x.2.1,n+x.2.2,false,fb,q,qb,qN,qc⟩,hlt,by show-((i+1:Nat):Int)<=m+x.2.1∧m+x.2.1<=((i+1:Nat):Int);omega,by show-((i+1:Nat):Int)<=n+x.2.2∧n+x.2.2<=((i+1:Nat):Int);omega,by rw[hI2,Aa hx hfar hnow];rw[hin];rfl,Nat.le_succ_of_le hq,h5,h6⟩ (hμ:=(by show l2.length-(i+1)<l2.length-i;omega)) (ht:=⟨rfl,rfl,rfl,rfl,rfl,(aB rfl (congrArg Value.bool hnow)),rfl,rfl,rfl,trivial⟩) (hL:=eF.auto)
       ·exact absurd hb8 (by rw[hnow];decide)
    ·have hfar:Far ρ l2 i x:=qeT (of_decide_eq_false hb5|>fun e=>by omega);refine A19 ?_;refine(Iz 0 wO sV) ?_;refine A2 ?_;refine(Iz 1 wO sV) ?_;refine A2 ?_;refine fO [_,_] rfl rfl rfl rfl (hkp _ _) ?_;refine A9 ?_;refine Rs 105 ?_ ?_<;>intro hb6
     ·have hnow:keep (decide (0<m+x.2.1)) (decide (0<n+x.2.2))=true:=hb6;refine A6 ?_;refine Cd ?_ ?_<;>intro hb7
      ·have hin:inn=false:=by have e:=hb7;simpa using e
       refine A2 ?_;refine VT 7 0 ?_;refine Ss 5 ?_;refine kL ?_;refine Ar (((i+1:Nat):Int)) ?_;refine A3 ?_;exact Nl ⟨⟨i+1,m+x.2.1,n+x.2.2,true,x.1,q,qb,qN,qc⟩,hlt,by show-((i+1:Nat):Int)<=m+x.2.1∧m+x.2.1<=((i+1:Nat):Int);omega,by show-((i+1:Nat):Int)<=n+x.2.2∧n+x.2.2<=((i+1:Nat):Int);omega,by rw[hI2,Aa hx hfar hnow];rw[hin];rfl,Nat.le_succ_of_le hq,h5,h6⟩ (hμ:=(by show l2.length-(i+1)<l2.length-i;omega)) (ht:=⟨rfl,rfl,rfl,rfl,rfl,(aB rfl (congrArg Value.bool hnow)),rfl,rfl,rfl,trivial⟩) (hL:=eF.auto)
      ·have hin:inn=true:=by have e:=hb7;simpa using e
       refine A5 ?_;refine Rs 114 ?_ ?_<;>intro hb8
       ·exact absurd hb8 (by rw[hnow];decide)
       ·refine KZ ?_;refine Ar (((i+1:Nat):Int)) ?_;refine A3 ?_;exact Nl ⟨⟨i+1,m+x.2.1,n+x.2.2,true,fb,q,qb,qN,qc⟩,hlt,by show-((i+1:Nat):Int)<=m+x.2.1∧m+x.2.1<=((i+1:Nat):Int);omega,by show-((i+1:Nat):Int)<=n+x.2.2∧n+x.2.2<=((i+1:Nat):Int);omega,by rw[hI2,Aa hx hfar hnow];rw[hin];rfl,Nat.le_succ_of_le hq,h5,h6⟩ (hμ:=(by show l2.length-(i+1)<l2.length-i;omega)) (ht:=⟨rfl,rfl,rfl,rfl,rfl,(aB rfl (congrArg Value.bool hnow)),rfl,rfl,rfl,trivial⟩) (hL:=eF.auto)
     ·have hnow:keep (decide (0<m+x.2.1)) (decide (0<n+x.2.2))=false:=hb6;refine lK ?_;refine Rs 114 ?_ ?_<;>intro hb7
      ·refine A5 ?_;refine Cd ?_ ?_<;>intro hb8
       ·have hin:inn=true:=hb8;refine A2 ?_;refine VT 5 0 ?_;refine A1 ?_;refine VT 7 0 ?_;refine Pc (xx fb x.1) ?_;refine(Bl 20 [(0,_)]) (xU) (fun g4=>?_);refine(Qa (s:=20) (len:=q.length) (n2:=1) 6 8 (fun r=>[_,_,_,_,_,_,⟨some r.g,61,ak dQ q++dQ (Hw fb x.1),r.n,true⟩,_,_]) Z7 XX) (gW.length q) h5 h6 (gW.one (Hw fb x.1)) (fun r=>?_);refine qf ?_;refine Ar (((i+1:Nat):Int)) ?_;refine A3 ?_;exact Nl ⟨⟨i+1,m+x.2.1,n+x.2.2,false,fb,q++[Hw fb x.1],some r.g,r.n,r.cap⟩,hlt,by show-((i+1:Nat):Int)<=m+x.2.1∧m+x.2.1<=((i+1:Nat):Int);omega,by show-((i+1:Nat):Int)<=n+x.2.2∧n+x.2.2<=((i+1:Nat):Int);omega,by rw[hI2,Aa hx hfar hnow];rw[hin,List.append_assoc];rfl,by rw[List.length_append];exact Nat.succ_le_succ hq,by rw[List.length_append];exact r.h,r.hn⟩ (hμ:=(by show l2.length-(i+1)<l2.length-i;omega)) (ht:=⟨rfl,rfl,(aB rfl (by rw[List.length_append];rfl)),rfl,rfl,(aB rfl (congrArg Value.bool hnow)),rfl,rfl,rfl,trivial⟩) (hL:=(aj [some 0,some 1,some 2,some 3,some 4,some 5,some 6] ⟨pR,pR,pR,pR,pR,pR,⟨_,rfl,aP (by rw[bD])⟩,trivial⟩ rfl rfl))
       ·have hin:inn=false:=hb8;refine kL ?_;refine Ar (((i+1:Nat):Int)) ?_;refine A3 ?_;exact Nl ⟨⟨i+1,m+x.2.1,n+x.2.2,false,fb,q,qb,qN,qc⟩,hlt,by show-((i+1:Nat):Int)<=m+x.2.1∧m+x.2.1<=((i+1:Nat):Int);omega,by show-((i+1:Nat):Int)<=n+x.2.2∧n+x.2.2<=((i+1:Nat):Int);omega,by rw[hI2,Aa hx hfar hnow];rw[hin];rfl,Nat.le_succ_of_le hq,h5,h6⟩ (hμ:=(by show l2.length-(i+1)<l2.length-i;omega)) (ht:=⟨rfl,rfl,rfl,rfl,rfl,(aB rfl (congrArg Value.bool hnow)),rfl,rfl,rfl,trivial⟩) (hL:=eF.auto)
      ·exact absurd hb7 (by rw[hnow];decide)
   ·have hge:i=l2.length:=(by have:=of_decide_eq_false hb4;omega);subst hge;obtain rfl:q=nO keep a b:=by rw[hI2,qeS,List.append_nil]
    refine lK ?_;refine aO rfl (ai rfl) (fun w hL=>⟨⟨qb,qN,qc,h5⟩,?_,hL.pk [some 6]⟩);exact rfl
def KF{S:Rl->Prop}{ρ:Rl->Int}(T:fD S ρ)(a:List Iv)(ab:Option Nat)(aN ac:Nat)(hac:a.length<=ac)(han:a.length<=1000)(b:List Iv)(bb:Option Nat)(bN bc:Nat)(hbc:b.length<=bc)(hbn:b.length<=1000)(ha:kw S a)(hb:kw S b)(oka:F7 ρ a)(okb:F7 ρ b)(hza:∀x∈a,kT x<=50000)(hzb:∀x∈b,kT x<=50000):bZ Tryz.prog 104 [⟨ab,61,ak dQ a,aN,false⟩,⟨bb,61,ak dQ b,bN,false⟩] [aI ab 0 a.length ac,aI bb 0 b.length bc] (SR (nO orB a b).length) SR.v (fun z=>[⟨z.b,61,ak dQ (nO orB a b),z.n,true⟩]):=by
 refine VU 8 Tryz.func104 fun w hL0=>?_;refine A9 ?_;refine(Sc [0,1]) (Ad T 153 orB H9 rfl a ab aN ac hac han b bb bN bc hbc hbn ha hb oka okb hza hzb) (fun z=>?_);refine A4 ?_;refine aO rfl (ai rfl) (fun w hL=>⟨z,?_,hL.pk [some 2]⟩);exact rfl
def KG{S:Rl->Prop}{ρ:Rl->Int}(T:fD S ρ)(a:List Iv)(ab:Option Nat)(aN ac:Nat)(hac:a.length<=ac)(han:a.length<=1000)(b:List Iv)(bb:Option Nat)(bN bc:Nat)(hbc:b.length<=bc)(hbn:b.length<=1000)(ha:kw S a)(hb:kw S b)(oka:F7 ρ a)(okb:F7 ρ b)(hza:∀x∈a,kT x<=50000)(hzb:∀x∈b,kT x<=50000):bZ Tryz.prog 151 [⟨ab,61,ak dQ a,aN,false⟩,⟨bb,61,ak dQ b,bN,false⟩] [aI ab 0 a.length ac,aI bb 0 b.length bc] (SR (nO (fun x y=>x&& !y) a b).length) SR.v (fun z=>[⟨z.b,61,ak dQ (nO (fun x y=>x&& !y) a b),z.n,true⟩]):=by
 refine VU 8 Tryz.func151 fun w hL0=>?_;refine A9 ?_;refine(Sc [0,1]) (Ad T 191 (fun x y=>x&& !y) Ia rfl a ab aN ac hac han b bb bN bc hbc hbn ha hb oka okb hza hzb) (fun z=>?_);refine A4 ?_;refine aO rfl (ai rfl) (fun w hL=>⟨z,?_,hL.pk [some 2]⟩);exact rfl
def rM{S:Rl->Prop}{ρ:Rl->Int}(T:fD S ρ)(l:List Iv)(lb:Option Nat)(lN lc:Nat)(hlc:l.length<=lc)(hln:l.length<=1000)(hs:kw S l)(hok:F7 ρ l)(hsz:∀x∈l,kT x<=50000):bZ Tryz.prog 50 [⟨lb,61,ak dQ l,lN,false⟩] [aI lb 0 l.length lc] (SR (jG l).length) SR.v (fun z=>[⟨z.b,61,ak dQ (jG l),z.n,true⟩]):=by
 refine QF 5 Tryz.func50 fun w hL0=>?_;refine A6 ?_;refine Vr _ (aj (L':=[_,⟨none,61,[],0,false⟩]) [some 0,none] ⟨pR,⟨rfl,rfl,rfl⟩,trivial⟩ rfl rfl) ?_;refine A2 ?_;refine iP [_,aI none 0 ([]:List Iv).length 0] [0,1] rfl rfl rfl (KF T l lb lN lc hlc hln [] none 0 0 (Nat.le_refl _) (Nat.zero_le _) hs Rx hok (fun x hx=>by cases hx) hsz (fun x hx=>by cases hx)) ⟨pR,pR,trivial⟩ rfl (.inr fun x b hb=>by rw[List.mem_singleton.1 hb]) (fun z=>?_);refine A4 ?_;refine aO rfl (ai rfl) (fun w hL=>⟨z,?_,hL.pk [some 2]⟩);exact rfl
def Ic{S:Rl->Prop}{ρ:Rl->Int}(T:fD S ρ)(a:List Iv)(ab:Option Nat)(aN ac:Nat)(hac:a.length<=ac)(han:a.length<=1000)(b:List Iv)(bb:Option Nat)(bN bc:Nat)(hbc:b.length<=bc)(hbn:b.length<=1000)(ha:kw S a)(hb:kw S b)(oka:F7 ρ a)(okb:F7 ρ b)(hza:∀x∈a,kT x<=50000)(hzb:∀x∈b,kT x<=50000):bZ Tryz.prog 102 [⟨ab,61,ak dQ a,aN,false⟩,⟨bb,61,ak dQ b,bN,false⟩] [aI ab 0 a.length ac,aI bb 0 b.length bc] Unit (fun _=> .bool (nO (fun x y=>x&& !y) b a).isEmpty) (fun _=>[]):=by
 refine VU 10 Tryz.func102 fun w hL0=>?_;refine A9 ?_;refine(Sc [1,0]) (KG T b bb bN bc hbc hbn a ab aN ac hac han hb ha okb oka hzb hza) (fun z=>?_);refine A6 ?_;refine aO rfl (ai rfl) (fun w hL=>⟨(),?_,hL.pk []⟩);exact eB (by cases nO (fun x y=>x&& !y) b a<;>rfl)
end Go.Proofs.YtaffcpfhedadhaaGreatDoor
namespace Go.Via
open Go
def Ti(i:Iv):Int:=if(dN i.f&&dN i.t)=false then 5 else if jr i=false then 10 else 0
section
variable{l:List (Iv×Qd)}{pv:Option Iv}{p:qA}
def NU{i:Iv}(h:Ti i=0):dN i.f=true∧dN i.t=true∧jr i=true:=by
 unfold Ti at h;cases h1:dN i.f<;>cases h2:dN i.t<;>cases h3:jr i<;>simp[h1,h2,h3] at h ⊢
def qjB(h:Ti p.i≠0):nP l pv p=Ti p.i:=by
 unfold nP Ti at*;cases h1:dN p.i.f<;>cases h2:dN p.i.t<;>cases h3:jr p.i<;>simp[h1,h2,h3] at h ⊢
def qfb(h:Ti p.i=0)(h2:(dN p.a&&dN p.b)=false):nP l pv p=5:=by
 obtain⟨a,b,c⟩:=NU h;unfold nP;rw[a,b,c,h2];rfl
def qll(h:Ti p.i=0)(h2:(dN p.a&&dN p.b)=true)(h4:zT pv p.i=true):nP l pv p=7:=by
 obtain⟨a,b,c⟩:=NU h;unfold nP;rw[a,b,c,h2,h4];rfl
def qjC(h:Ti p.i=0)(h2:(dN p.a&&dN p.b)=true)(h4:zT pv p.i=false)(h5:Dc l p=true):nP l pv p=0:=by
 obtain⟨a,b,c⟩:=NU h;unfold nP;rw[a,b,c,h2,h4,h5];rfl
def qfP(h:Ti p.i=0)(h2:(dN p.a&&dN p.b)=true)(h4:zT pv p.i=false)(h5:Dc l p=false):nP l pv p=30:=by
 obtain⟨a,b,c⟩:=NU h;unfold nP;rw[a,b,c,h2,h4,h5];rfl
def qfc(h:nP l pv p=0):jr p.i=true:=by
 unfold nP at h;cases h1:dN p.i.f<;>cases h2:dN p.i.t<;>cases h3:jr p.i<;>simp[h1,h2,h3] at h ⊢
end
def Xg(p:qA)(x:Iv×Qd):Bool:=O9 x.1 p.i&&decide (dV (p.i,x.2)=p)
def ckB(cb:Option Nat):Nat->Option Addr
 |0=>none
 |i+1=>some ⟨cb.getD 0,i*38,none⟩
section
variable{a b:List PU}{c:List qA}{m:Rl}
def qjD(h:(ay a b).length=0):36=wY a b c m:=by unfold wY;rw[if_pos (by rw[List.length_eq_zero_iff.1 h];rfl)]
theorem Tj(h:(ay a b).length≠0):¬(ay a b).isEmpty=true:=fun e=>h (by rw[List.isEmpty_iff.1 e];rfl)
def qlm{e:Int}(h:(ay a b).length≠0)(hl:kz (nP (ay a b)) none c=e)(h0:e≠0):e=wY a b c m:=by unfold wY;rw[if_neg (Tj h),hl,if_pos h0]
def qjE(h:(ay a b).length≠0)(hl:kz (nP (ay a b)) none c=0)(hn:jG (c.map (·.i))≠jG ((ay a b).map (·.1))):12=wY a b c m:=by
 unfold wY;rw[if_neg (Tj h),hl,if_neg (by decide),if_pos hn]
def qln(h:(ay a b).length≠0)(hl:kz (nP (ay a b)) none c=0)(hn:jG (c.map (·.i))=jG ((ay a b).map (·.1)))(hm:dN m=false):5=wY a b c m:=by
 unfold wY;rw[if_neg (Tj h),hl,if_neg (by decide),if_neg (fun k=>k hn),if_pos hm]
def qjF(h:(ay a b).length≠0)(hl:kz (nP (ay a b)) none c=0)(hn:jG (c.map (·.i))=jG ((ay a b).map (·.1)))(hm:dN m=true)(hx:m≠fF c):30=wY a b c m:=by
 unfold wY;rw[if_neg (Tj h),hl,if_neg (by decide),if_neg (fun k=>k hn),hm,if_neg (by decide),if_pos hx]
def qlo(h:(ay a b).length≠0)(hl:kz (nP (ay a b)) none c=0)(hn:jG (c.map (·.i))=jG ((ay a b).map (·.1)))(hm:dN m=true)(hx:m=fF c):0=wY a b c m:=by
 unfold wY;rw[if_neg (Tj h),hl,if_neg (by decide),if_neg (fun k=>k hn),hm,if_neg (by decide),if_neg (fun k=>k hx)]
def qfd{S:Rl->Prop}{ρ:Rl->Int}(T:fD S ρ)(hP:∀x∈ay a b,(S x.1.f∧S x.1.t)∧aY ρ x.1.b<aY ρ x.1.e)(h:(ay a b).length≠0)(hn:jG (c.map (·.i))=jG ((ay a b).map (·.1))):0<c.length:=by
 rcases Nat.eq_zero_or_pos c.length with h0|h0
 ·rw[List.length_eq_zero_iff.1 h0] at hn;have hS:kw S ((ay a b).map (·.1)):=fun i hi=>by obtain⟨x,hx,rfl⟩:=List.mem_map.1 hi;exact(hP x hx).1
  have hO:F7 ρ ((ay a b).map (·.1)):=fun i hi=>by obtain⟨x,hx,rfl⟩:=List.mem_map.1 hi;exact(hP x hx).2
  have:=Ry T hS hO;rw[<-hn] at this;have e:(jG (([]:List qA).map (·.i))).isEmpty=true:=rfl;rw[e] at this;have e2:=List.isEmpty_iff.1 this.symm;exact absurd (by simpa using congrArg List.length e2) h
 ·exact h0
end
end Go.Via
namespace Go.Proofs.YtaffcpfhedadhaaGreatDoor
def qjG:Tryz.prog.underlying 103=some (.pointer 63):=by kernel_rfl
open Go Go.Via
def qfQ{S:Rl->Prop}{ρ:Rl->Int}(T:fD S ρ){x p:Iv}{v:Bool}(hx:S x.f∧S x.t)(hp:S p.f∧S p.t)(ox:aY ρ x.b<aY ρ x.e)(op:aY ρ p.b<aY ρ p.e)(sx:kT x<=50000)(sp:kT p<=50000)(h:O9 x p=v)(gx gp:Nat):
 bZ Tryz.prog 102 [⟨some gx,61,dQ x,20,false⟩,⟨some gp,61,dQ p,20,false⟩] [aI (some gx) 0 1 1,aI (some gp) 0 1 1] Unit (fun _=> .bool v) (fun _=>[]):=by
 subst h;exact Ic T [x] (some gx) 20 1 (Nat.le_refl _) (by simp) [p] (some gp) 20 1 (Nat.le_refl _) (by simp) (EF hx) (EF hp) (fun j hj=>by rw[List.mem_singleton.1 hj];exact ox) (fun j hj=>by rw[List.mem_singleton.1 hj];exact op) (fun j hj=>by rw[List.mem_singleton.1 hj];exact sx) (fun j hj=>by rw[List.mem_singleton.1 hj];exact sp)
end Go.Proofs.YtaffcpfhedadhaaGreatDoor
namespace Go.Via
variable[Mo]
open Go Go.RowKit
section
variable{P:Program}{bl:List Nat}{ops:Array Oper}{K:St->Prop}{rest:List Oper}{nt:Nat}{t:List (Nat×Value)}{L:List aF}{d:Nat}{ty:TypeId}{pos:String}{af:Array Edge}{g:Option (Nat×Bool)}{x y:Operand}
def qfe{T U e:Nat}{v:Option Addr}{n c:Nat}(hT:P.underlying T=some (.slice e))(hd:Nat.blt d nt=true)(hg:ax ops ⟨some d,.binOp .eql T x y U,ty,pos,af,g⟩ t=some true)(hx:ev t x=some (.slice v n c))(hy:ev t y=some (.slice none 0 0))
 (h:aX P bl ops rest ⟨nt,(d,.bool v.isNone)::t,L⟩ K):aX P bl ops (⟨some d,.binOp .eql T x y U,ty,pos,af,g⟩::rest) ⟨nt,t,L⟩ K:=
 fM hd hg rfl (fun B a w hrel=>by
 have:=Lib.run_eql_slice_nil (P:=P) w T e v n c 0 0 hT;simp[execOp,hrel.ev hx,hrel.ev hy,eqGuard,this]) h
def BA{T U:Nat}{v:Option Addr}{te:TypeId}{r:Bool}(hT:P.underlying T=some (.pointer te))(hd:Nat.blt d nt=true)(hg:ax ops ⟨some d,.binOp .neq T x y U,ty,pos,af,g⟩ t=some true)(hx:ev t x=some (.pointer v))(hy:ev t y=some (.pointer none))(hr:v.isSome=r)
 (h:aX P bl ops rest ⟨nt,(d,.bool r)::t,L⟩ K):aX P bl ops (⟨some d,.binOp .neq T x y U,ty,pos,af,g⟩::rest) ⟨nt,t,L⟩ K:=
 fM hd hg rfl (fun B a w hrel=>by
 subst hr;have h:∀d:Nat,(Op.equalIn (d+1) T (.pointer v) (.pointer none)).run P w= .ok v.isNone w:=fun d=>by
  cases v<;>simp[Op.equalIn,run_underlying hT]
 simp only[execOp,hrel.ev hx,hrel.ev hy,eqGuard,binOp];cases v<;>simp[Op.equal,Op.maxDepth,h 9999]) h
end
end Go.Via
namespace Go.Proofs.YtaffcpfhedadhaaGreatDoor
open Go Go.RowKit Go.Via
def KH{S:Rl->Prop}{ρ:Rl->Int}(T:fD S ρ)(l:List (Iv×Qd))(lb:Option Nat)(lN lc:Nat)(hlc:l.length<=lc)(hln:l.length<=1000)(hlS:∀x∈l,(S x.1.f∧S x.1.t)∧aY ρ x.1.b<aY ρ x.1.e)(hlz:∀x∈l,kT x.1<=1000∧uk x.2<=10000)(c:List qA)(cb:Option Nat)(cN cc:Nat)(hcc:c.length<=cc)(hcn:c.length<=1000)(p:qA)(hp:S p.i.f∧S p.i.t)(hpz:kT p.i<=5000∧ik p.a<=5000∧ik p.b<=5000):bZ Tryz.prog 48 [⟨lb,93,ak C9 l,lN,false⟩,⟨cb,63,ak pJ c,cN,false⟩] [aI lb 0 l.length lc,Yw p,.pointer none] Unit (fun _=> .int .i64 (nP l none p)) (fun _=>[]):=by
 refine⟨by kernel_rfl,fun w hL0=>?_⟩;obtain⟨hz1,hz2,hz3⟩:=hpz;refine cB3 63 Tryz.func48 hL0 ?_;refine A2 ?_;refine Bp 38 (fun g0=>?_);refine A7 ?_;refine xC 2 0 ?_;refine Pc (o9 p.i) ?_;refine A9 ?_;refine Cd ?_ ?_<;>intro hb0
 ·have r1:Ti p.i≠0:=by have e:=hb0;simpa[Ti] using e
  refine A8 ?_;refine aO rfl (ai rfl) (fun w hL=>⟨(),?_,hL.pk []⟩);exact congrArg (fun e:Int=>Ending.returned (.int .i64 e)) (qjB r1).symm
 ·have r1:Ti p.i=0:=by have e:=hb0;simpa[Ti] using e
  obtain⟨r2,r3,r4⟩:=NU r1;have hpo:=(tY T hp.1 hp.2).1 r4;refine A7 ?_;refine L9 2 20 ?_;refine Pc (iW p.a) ?_;refine A2 ?_;refine Rs 21 ?_ ?_<;>intro hb1
  ·have r5:dN p.a=false:=by cases e:dN p.a<;>simp[e] at hb1 ⊢
   refine Qe ?_;refine aO rfl (ai rfl) (fun w hL=>⟨(),?_,hL.pk []⟩);exact congrArg (fun e:Int=>Ending.returned (.int .i64 e)) (qfb r1 (by rw[r5];rfl)).symm
  ·have r5:dN p.a=true:=by cases e:dN p.a<;>simp[e] at hb1 ⊢
   refine A1 ?_;refine L9 2 29 ?_;refine Pc (iW p.b) ?_;refine A5 ?_;refine Cd ?_ ?_<;>intro hb2
   ·have r6:dN p.b=false:=by cases e:dN p.b<;>simp[e] at hb2 ⊢
    refine A8 ?_;refine aO rfl (ai rfl) (fun w hL=>⟨(),?_,hL.pk []⟩);exact congrArg (fun e:Int=>Ending.returned (.int .i64 e)) (qfb r1 (by rw[r6,Bool.and_false])).symm
   ·have r6:dN p.b=true:=by cases e:dN p.b<;>simp[e] at hb2 ⊢
    refine A1 ?_;refine Di [] ?_;refine A1 ?_;refine BA qjG rfl rfl rfl rfl rfl ?_;refine A26 ?_;refine El (ι:={i:Nat // i<=l.length∧Dc l p=(l.drop i).any (Xg p)}) (fun⟨i,hi,hI⟩=>([(0,aI lb 0 l.length lc),(40,aI lb 0 l.length lc),(41,bV (l.length)),(42,bV i),(4,gU g0)],[⟨lb,93,ak C9 l,lN,false⟩,⟨cb,63,ak pJ c,cN,false⟩,⟨some g0,63,pJ p,38,true⟩],l.length-i)) ⟨0,Nat.zero_le _,rfl⟩ ?_ (hL:=eF.auto);rintro⟨i,hi,hI⟩;(try dsimp only);refine A6 ?_;refine Cd ?_ ?_<;>intro hb4
    ·have hlt:i<l.length:=(by have:=of_decide_eq_true hb4;omega);obtain⟨x,hx⟩:∃x,l[i]? =some x:=⟨l[i],List.getElem?_eq_getElem hlt⟩;obtain⟨hxS,hxo⟩:=hlS x (List.mem_of_getElem? hx);obtain⟨hxz,hxf⟩:=hlz x (List.mem_of_getElem? hx);refine gm 0 rfl (nH.ne (by decide) (by omega)) (fun hbs=>?_);obtain⟨gl,hgl⟩:=Option.isSome_iff_exists.1 hbs;replace hgl:lb=some gl:=hgl;subst hgl;refine A6 ?_;refine au 0 ((i)*32) u88 Ll rfl rfl rfl rfl rfl (by omega) (by omega) (nH.ne (by decide) (by omega)) (by show 0+Int.toNat _*32=_;omega) ?_;refine bn (v:=PtV x) 0 ((i)*32) _ rfl rfl rfl rfl Ll (nH.sub hx 0 32 (by decide)) rfl (by decide) rfl ?_;refine Al 32 z93 (fun g1=>?_);refine Ss 3 ?_;refine A3 ?_;refine Dq [3000000] [0,1,3,4,2,5,6,7,8,9,10,11,13,12,14,15] ?_;refine A1 ?_;refine xC 3 0 ?_;refine A1 ?_;refine xC 2 0 ?_;refine(Bl 20 [(0,_)]) (xU) (fun g2=>?_);refine(Bl 20 [(0,_)]) (xU) (fun g3=>?_);refine(Sd [4,5]) (qfQ T hxS hp hxo hpo (by omega) (by omega) rfl g2 g3) ?_;refine A1 ?_;refine Rs 53 ?_ ?_<;>intro hb5
     ·have r8:O9 x.1 p.i=true:=hb5;refine A1 ?_;refine xC 2 0 ?_;refine A1 ?_;refine uD 3 20 ?_;refine L38 2 0 ?_;refine bY [_,_] rfl rfl rfl (jo p.i x.2 ((Bh _).1 r2).r0 ((Bh _).1 r3).r0) ?_;refine fG rfl rfl rfl rfl qgA (qg3 _ _) ?_;refine A3 ?_;refine Cd ?_ ?_<;>intro hb6
      ·have r9:decide (dV (p.i,x.2)=p)=true:=hb6;have hyes:Xg p x=true:=by unfold Xg;rw[r8,r9];rfl
       refine qf ?_;refine aO rfl (ai rfl) (fun w hL=>⟨(),?_,hL.pk []⟩);exact congrArg (fun e:Int=>Ending.returned (.int .i64 e)) (qjC r1 (by rw[r5,r6];rfl) rfl (by rw[hI,xu hx,hyes];rfl)).symm
      ·have r9:decide (dV (p.i,x.2)=p)=false:=hb6;have hno:Xg p x=false:=by unfold Xg;rw[r8,r9];rfl
       refine A4 ?_;refine Ar (((i+1:Nat):Int)) ?_;refine A3 ?_;exact Nl ⟨i+1,hlt,by rw[hI,xu hx];simp only[hno,Bool.false_or]⟩ (hL:=eF.auto)
     ·have r8:O9 x.1 p.i=false:=hb5;have hno:Xg p x=false:=by unfold Xg;rw[r8,Bool.false_and]
      refine y8 ?_;refine Ar (((i+1:Nat):Int)) ?_;refine A3 ?_;exact Nl ⟨i+1,hlt,by rw[hI,xu hx];simp only[hno,Bool.false_or]⟩ (hL:=eF.auto)
    ·have hge:i=l.length:=(by have:=of_decide_eq_false hb4;omega);subst hge;refine qf ?_;refine aO rfl (ai rfl) (fun w hL=>⟨(),?_,hL.pk []⟩);exact congrArg (fun e:Int=>Ending.returned (.int .i64 e)) (qfP r1 (by rw[r5,r6];rfl) rfl (by rw[hI,List.drop_length];rfl)).symm
def KI{S:Rl->Prop}{ρ:Rl->Int}(T:fD S ρ)(l:List (Iv×Qd))(lb:Option Nat)(lN lc:Nat)(hlc:l.length<=lc)(hln:l.length<=1000)(hlS:∀x∈l,(S x.1.f∧S x.1.t)∧aY ρ x.1.b<aY ρ x.1.e)(hlz:∀x∈l,kT x.1<=1000∧uk x.2<=10000)(c:List qA)(gc cN cc:Nat)(hcc:c.length<=cc)(hcn:c.length<=1000)(p:qA)(hp:S p.i.f∧S p.i.t)(hpz:kT p.i<=5000∧ik p.a<=5000∧ik p.b<=5000)(j:Nat)(q:qA)(hq:c[j]? =some q)(hqz:kT q.i<=50000:=by omega):bZ Tryz.prog 48 [⟨lb,93,ak C9 l,lN,false⟩,⟨some gc,63,ak pJ c,cN,false⟩] [aI lb 0 l.length lc,Yw p,.pointer (some ⟨gc,j*38,none⟩)] Unit (fun _=> .int .i64 (nP l (some q.i) p)) (fun _=>[]):=by
 refine⟨by kernel_rfl,fun w hL0=>?_⟩;obtain⟨hz1,hz2,hz3⟩:=hpz;refine cB3 63 Tryz.func48 hL0 ?_;refine A2 ?_;refine Bp 38 (fun g0=>?_);refine A7 ?_;refine xC 2 0 ?_;refine Pc (o9 p.i) ?_;refine A9 ?_;refine Cd ?_ ?_<;>intro hb0
 ·have r1:Ti p.i≠0:=by have e:=hb0;simpa[Ti] using e
  refine A8 ?_;refine aO rfl (ai rfl) (fun w hL=>⟨(),?_,hL.pk []⟩);exact congrArg (fun e:Int=>Ending.returned (.int .i64 e)) (qjB r1).symm
 ·have r1:Ti p.i=0:=by have e:=hb0;simpa[Ti] using e
  obtain⟨r2,r3,r4⟩:=NU r1;have hpo:=(tY T hp.1 hp.2).1 r4;refine A7 ?_;refine L9 2 20 ?_;refine Pc (iW p.a) ?_;refine A2 ?_;refine Rs 21 ?_ ?_<;>intro hb1
  ·have r5:dN p.a=false:=by cases e:dN p.a<;>simp[e] at hb1 ⊢
   refine Qe ?_;refine aO rfl (ai rfl) (fun w hL=>⟨(),?_,hL.pk []⟩);exact congrArg (fun e:Int=>Ending.returned (.int .i64 e)) (qfb r1 (by rw[r5];rfl)).symm
  ·have r5:dN p.a=true:=by cases e:dN p.a<;>simp[e] at hb1 ⊢
   refine A1 ?_;refine L9 2 29 ?_;refine Pc (iW p.b) ?_;refine A5 ?_;refine Cd ?_ ?_<;>intro hb2
   ·have r6:dN p.b=false:=by cases e:dN p.b<;>simp[e] at hb2 ⊢
    refine A8 ?_;refine aO rfl (ai rfl) (fun w hL=>⟨(),?_,hL.pk []⟩);exact congrArg (fun e:Int=>Ending.returned (.int .i64 e)) (qfb r1 (by rw[r6,Bool.and_false])).symm
   ·have r6:dN p.b=true:=by cases e:dN p.b<;>simp[e] at hb2 ⊢
    refine A1 ?_;refine Di [] ?_;refine A1 ?_;refine BA qjG rfl rfl rfl rfl rfl ?_;refine A3 ?_;refine Fg (j*38) 0 ?_;refine bn (v:=mG q.i) 1 (j*38) _ rfl rfl rfl rfl lL (iU.sub hq 0 20 (by decide)) rfl (by decide) rfl ?_;refine A1 ?_;refine xC 2 0 ?_;refine Pc (BH q.i p.i) ?_;refine A5 ?_;refine Cd ?_ ?_<;>intro hb3
    ·have r7:zT (some q.i) p.i=true:=hb3;refine A8 ?_;refine aO rfl (ai rfl) (fun w hL=>⟨(),?_,hL.pk []⟩);exact congrArg (fun e:Int=>Ending.returned (.int .i64 e)) (qll r1 (by rw[r5,r6];rfl) r7).symm
    ·have r7:zT (some q.i) p.i=false:=hb3;refine lK ?_;refine El (ι:={i:Nat // i<=l.length∧Dc l p=(l.drop i).any (Xg p)}) (fun⟨i,hi,hI⟩=>([(0,aI lb 0 l.length lc),(40,aI lb 0 l.length lc),(41,bV (l.length)),(42,bV i),(4,gU g0)],[⟨lb,93,ak C9 l,lN,false⟩,⟨some gc,63,ak pJ c,cN,false⟩,⟨some g0,63,pJ p,38,true⟩],l.length-i)) ⟨0,Nat.zero_le _,rfl⟩ ?_ (hL:=eF.auto);rintro⟨i,hi,hI⟩;(try dsimp only);refine A6 ?_;refine Cd ?_ ?_<;>intro hb5
     ·have hlt:i<l.length:=(by have:=of_decide_eq_true hb5;omega);obtain⟨x,hx⟩:∃x,l[i]? =some x:=⟨l[i],List.getElem?_eq_getElem hlt⟩;obtain⟨hxS,hxo⟩:=hlS x (List.mem_of_getElem? hx);obtain⟨hxz,hxf⟩:=hlz x (List.mem_of_getElem? hx);refine gm 0 rfl (nH.ne (by decide) (by omega)) (fun hbs=>?_);obtain⟨gl,hgl⟩:=Option.isSome_iff_exists.1 hbs;replace hgl:lb=some gl:=hgl;subst hgl;refine A6 ?_;refine au 0 ((i)*32) u88 Ll rfl rfl rfl rfl rfl (by omega) (by omega) (nH.ne (by decide) (by omega)) (by show 0+Int.toNat _*32=_;omega) ?_;refine bn (v:=PtV x) 0 ((i)*32) _ rfl rfl rfl rfl Ll (nH.sub hx 0 32 (by decide)) rfl (by decide) rfl ?_;refine Al 32 z93 (fun g1=>?_);refine Ss 3 ?_;refine A3 ?_;refine Dq [3000000] [0,1,3,4,2,5,6,7,8,9,10,11,13,12,14,15] ?_;refine A1 ?_;refine xC 3 0 ?_;refine A1 ?_;refine xC 2 0 ?_;refine(Bl 20 [(0,_)]) (xU) (fun g2=>?_);refine(Bl 20 [(0,_)]) (xU) (fun g3=>?_);refine(Sd [4,5]) (qfQ T hxS hp hxo hpo (by omega) (by omega) rfl g2 g3) ?_;refine A1 ?_;refine Rs 53 ?_ ?_<;>intro hb6
      ·have r8:O9 x.1 p.i=true:=hb6;refine A1 ?_;refine xC 2 0 ?_;refine A1 ?_;refine uD 3 20 ?_;refine L38 2 0 ?_;refine bY [_,_] rfl rfl rfl (jo p.i x.2 ((Bh _).1 r2).r0 ((Bh _).1 r3).r0) ?_;refine fG rfl rfl rfl rfl qgA (qg3 _ _) ?_;refine A3 ?_;refine Cd ?_ ?_<;>intro hb7
       ·have r9:decide (dV (p.i,x.2)=p)=true:=hb7;have hyes:Xg p x=true:=by unfold Xg;rw[r8,r9];rfl
        refine qf ?_;refine aO rfl (ai rfl) (fun w hL=>⟨(),?_,hL.pk []⟩);exact congrArg (fun e:Int=>Ending.returned (.int .i64 e)) (qjC r1 (by rw[r5,r6];rfl) r7 (by rw[hI,xu hx,hyes];rfl)).symm
       ·have r9:decide (dV (p.i,x.2)=p)=false:=hb7;have hno:Xg p x=false:=by unfold Xg;rw[r8,r9];rfl
        refine A4 ?_;refine Ar (((i+1:Nat):Int)) ?_;refine A3 ?_;exact Nl ⟨i+1,hlt,by rw[hI,xu hx];simp only[hno,Bool.false_or]⟩ (hL:=eF.auto)
      ·have r8:O9 x.1 p.i=false:=hb6;have hno:Xg p x=false:=by unfold Xg;rw[r8,Bool.false_and]
       refine y8 ?_;refine Ar (((i+1:Nat):Int)) ?_;refine A3 ?_;exact Nl ⟨i+1,hlt,by rw[hI,xu hx];simp only[hno,Bool.false_or]⟩ (hL:=eF.auto)
     ·have hge:i=l.length:=(by have:=of_decide_eq_false hb5;omega);subst hge;refine qf ?_;refine aO rfl (ai rfl) (fun w hL=>⟨(),?_,hL.pk []⟩);exact congrArg (fun e:Int=>Ending.returned (.int .i64 e)) (qfP r1 (by rw[r5,r6];rfl) r7 (by rw[hI,List.drop_length];rfl)).symm
end Go.Proofs.YtaffcpfhedadhaaGreatDoor
namespace Go.Proofs.YtaffcpfhedadhaaGreatDoor
open Go Go.RowKit Go.Via
def PH{S:Rl->Prop}{ρ:Rl->Int}(T:fD S ρ)(l:List (Iv×Qd))(lb:Option Nat)(lN lc:Nat)(hlc:l.length<=lc)(hln:l.length<=1000)(hlS:∀x∈l,(S x.1.f∧S x.1.t)∧aY ρ x.1.b<aY ρ x.1.e)(hlz:∀x∈l,kT x.1<=1000∧uk x.2<=10000)
 (c:List qA)(gc cN cc:Nat)(hcc:c.length<=cc)(hcn:c.length<=1000)(hcz:∀q∈c,kT q.i<=50000)(p:qA)(hp:S p.i.f∧S p.i.t)(hpz:kT p.i<=5000∧ik p.a<=5000∧ik p.b<=5000)(i:Nat)(hi:i<=c.length):
 bZ Tryz.prog 48 [⟨lb,93,ak C9 l,lN,false⟩,⟨some gc,63,ak pJ c,cN,false⟩] [aI lb 0 l.length lc,Yw p,.pointer (ckB (some gc) i)] Unit (fun _=> .int .i64 (nP l (xy c i) p)) (fun _=>[]):=by
 cases i with
 |zero=>exact KH T l lb lN lc hlc hln hlS hlz c (some gc) cN cc hcc hcn p hp hpz
 |succ i=>
  have hq:c[i]? =some c[i]:=List.getElem?_eq_getElem hi;rw[WS hq];exact KI T l lb lN lc hlc hln hlS hlz c gc cN cc hcc hcn p hp hpz i _ hq (hcz _ (List.mem_of_getElem? hq))
end Go.Proofs.YtaffcpfhedadhaaGreatDoor
namespace Go.Via
open Go
def Ae(x y:PU)(t:Rl):Bool:=xh x.i t&&xh y.i t
theorem qb4{α β:Type}{f:α->Option β}{a:List α}{i:Nat}{x:α}(hx:a[i]? =some x)(hN:∀u∈a.take i,f u=none):a.findSome? f=(f x).or ((a.drop (i+1)).findSome? f):=by
 have ha:a=a.take i++x::a.drop (i+1):=by
  obtain⟨h1,h2⟩:=List.getElem?_eq_some_iff.1 hx;rw[<-h2,List.getElem_cons_drop,List.take_append_drop]
 conv=>lhs;rw[ha]
 rw[List.findSome?_append,List.findSome?_eq_none_iff.2 hN,List.findSome?_cons];cases f x<;>rfl
def atR(b:List PU)(x:PU)(t:Rl):Option Rl:=b.findSome? fun y=>if Ae x y t=true then some (F8 (d2 x.f y.f) t) else none
theorem qfR(a b:List PU)(t:Rl):UX a b t=a.findSome? fun x=>atR b x t:=rfl
def qff{a b:List PU}{t:Rl}(h:∀u∈a.take a.length,atR b u t=none):UX a b t=none:=by
 rw[qfR];exact List.findSome?_eq_none_iff.2 fun u hu=>h u (by rw[List.take_length];exact hu)
def qb5{b:List PU}{x:PU}{t:Rl}(h:∀v∈b.take b.length,Ae x v t=false):atR b x t=none:=
 List.findSome?_eq_none_iff.2 fun v hv=>by rw[h v (by rw[List.take_length];exact hv)];rfl
def qb6{a b:List PU}{t:Rl}{i j:Nat}{x y:PU}(hx:a[i]? =some x)(hy:b[j]? =some y)(hN:∀u∈a.take i,atR b u t=none)(hM:∀v∈b.take j,Ae x v t=false)(h:Ae x y t=true):UX a b t=some (F8 (d2 x.f y.f) t):=by
 rw[qfR,qb4 hx hN];have:atR b x t=some (F8 (d2 x.f y.f) t):=by
  unfold atR;rw[qb4 hy fun v hv=>by rw[hM v hv];rfl,h];rfl
 rw[this];rfl
def Xh{α:Type}{p:α->Prop}{a:List α}{i:Nat}{x:α}(hx:a[i]? =some x)(h:∀u∈a.take i,p u)(hp:p x):∀u∈a.take (i+1),p u:=fun u hu=>by
 rw[<-fB hx] at hu;rcases List.mem_append.1 hu with h1|h1
 ·exact h u h1
 ·rw[List.mem_singleton.1 h1];exact hp
end Go.Via
namespace Go.Proofs.YtaffcpfhedadhaaGreatDoor
open Go Go.RowKit Go.Via
def Dt{S:Rl->Prop}{ρ:Rl->Int}(T:fD S ρ)(a:List PU)(ab:Option Nat)(aN ac:Nat)(hac:a.length<=ac)(han:a.length<=200)(b:List PU)(bb:Option Nat)(bN bc:Nat)(hbc:b.length<=bc)(hbn:b.length<=200)(hsa:He a)(hsb:He b)(H:SS a b)(c:List qA)(cb:Option Nat)(cN cc:Nat)(hcc:c.length<=cc)(hcn:c.length<=400)(m:Rl)(hcz:∀p∈c,kT p.i<=5000∧ik p.a<=5000∧ik p.b<=5000)(hmz:ik m<=5000)(hPS:∀x∈(ay a b),(S x.1.f∧S x.1.t)∧aY ρ x.1.b<aY ρ x.1.e)(hcS:∀p∈c,S p.i.f∧S p.i.t):bZ Tryz.prog 16 [⟨ab,100,ak aQ a,aN,false⟩,⟨bb,100,ak aQ b,bN,false⟩,⟨cb,63,ak pJ c,cN,false⟩] [aI ab 0 a.length ac,aI bb 0 b.length bc,CfV (aI cb 0 c.length cc) m] Unit (fun _=> .int .i64 (wY a b c m)) (fun _=>[]):=by
 refine⟨by kernel_rfl,fun w hL0=>?_⟩;have hpl:=Bz a b;have hpz:=EW hsa hsb;refine cB3 78 Tryz.func16 hL0 ?_;refine A2 ?_;refine Bp 10 (fun g0=>?_);refine A7 ?_;refine(Sc [0,1]) (oh a ab aN ac hac (by omega) b bb bN bc hbc (by omega) hsa hsb) (fun zr=>?_);obtain⟨rb,rN,rc,hrc⟩:=zr;refine qf ?_;refine Cd ?_ ?_<;>intro hb0
 ·have hk0:(ay a b).length=0:=by have e:=hb0;simpa using e
  refine A7 ?_;refine aO rfl (ai rfl) (fun w hL=>⟨(),?_,hL.pk []⟩);exact congrArg (fun e:Int=>Ending.returned (.int .i64 e)) (qjD hk0)
 ·have hk0:(ay a b).length≠0:=by have e:=hb0;simpa using e
  refine A23 ?_;refine El (ι:={z:Nat×List Iv×Option Nat×Nat×Nat // z.1<=c.length∧z.2.1=(c.take z.1).map (·.i)∧z.2.1.length<=z.2.2.2.2∧z.2.2.2.2*20<=z.2.2.2.1∧kz (nP (ay a b)) none c=kz (nP (ay a b)) (xy c z.1) (c.drop z.1)∧∀q∈c.take z.1,jr q.i=true}) (fun⟨⟨i,o,ob,oN,oc⟩,hi,hI,h3,h4,hLL,hOK⟩=>([(5,gU g0),(7,aI rb 0 (ay a b).length rc),(8,.pointer (ckB cb i)),(9,aI ob 0 o.length oc),(10,.slice none 0 0),(23,aI cb 0 c.length cc),(24,bV (c.length)),(25,bV i)],[⟨ab,100,ak aQ a,aN,false⟩,⟨bb,100,ak aQ b,bN,false⟩,⟨cb,63,ak pJ c,cN,false⟩,⟨some g0,40,qeR (aI cb 0 c.length cc) m,10,true⟩,⟨rb,93,ak C9 (ay a b),rN,true⟩,⟨ob,61,ak dQ o,oN,true⟩],c.length-i)) ⟨⟨0,[],none,0,0⟩,Nat.zero_le _,rfl,Nat.le_refl _,by simp,rfl,fun q hq=>by simp at hq⟩ ?_ (hL:=(aj [some 0,some 1,some 2,some 3,some 4,none] ⟨pR,pR,pR,pR,pR,⟨rfl,rfl,rfl⟩,trivial⟩ rfl rfl));rintro⟨⟨i,o,ob,oN,oc⟩,hi,hI,h3,h4,hLL,hOK⟩;(try dsimp only);replace hi:i<=c.length:=hi;replace hI:o=(c.take i).map (·.i):=hI;replace h3:o.length<=oc:=h3;replace h4:oc*20<=oN:=h4;replace hLL:kz (nP (ay a b)) none c=kz (nP (ay a b)) (xy c i) (c.drop i):=hLL;replace hOK:∀q∈c.take i,jr q.i=true:=hOK
  have hol:o.length<=400:=(by rw[hI,List.length_map,List.length_take];omega);refine A6 ?_;refine Cd ?_ ?_<;>intro hb2
  ·have hlt:i<c.length:=(by have:=of_decide_eq_true hb2;omega);obtain⟨p,hp⟩:∃p,c[i]? =some p:=⟨c[i],List.getElem?_eq_getElem hlt⟩;have hpm:=List.mem_of_getElem? hp;refine gm 2 rfl (iU.ne (by decide) (by omega)) (fun hbs=>?_);obtain⟨gc,hgc⟩:=Option.isSome_iff_exists.1 hbs;replace hgc:cb=some gc:=hgc;subst hgc;refine A7 ?_;refine au 2 ((i)*38) u32 Qv rfl rfl rfl rfl rfl (by omega) (by omega) (iU.ne (by decide) (by omega)) (by show 0+Int.toNat _*38=_;omega) ?_;refine bn (v:=Yw p) 2 ((i)*38) _ rfl rfl rfl rfl Qv (iU.sub hp 0 38 (by decide)) rfl (by decide) rfl ?_;refine Al 38 z63 (fun g1=>?_);refine A1 ?_;refine Ss 6 ?_;refine A6 ?_;refine L38 6 0 ?_;refine A1 ?_;refine(Sd [4,2]) (PH T (ay a b) rb rN rc hrc (by omega) hPS (fun x hx=>⟨Nat.le_trans (hpz x hx).1 (by omega),Nat.le_trans (hpz x hx).2 (by omega)⟩) c gc cN cc hcc (by omega) (fun q hq=>Nat.le_trans (hcz q hq).1 (by omega)) p (hcS p hpm) (hcz p hpm) i hi) ?_;refine A9 ?_;refine Cd ?_ ?_<;>intro hb3
   ·have he:nP (ay a b) (xy c i) p≠0:=by have e:=hb3;simpa using e
    refine BC ?_;refine aO rfl (ai rfl) (fun w hL=>⟨(),?_,hL.pk []⟩);exact congrArg (fun e:Int=>Ending.returned (.int .i64 e)) (qlm hk0 (qhC hp hLL rfl he) he)
   ·have he:nP (ay a b) (xy c i) p=0:=by have e:=hb3;simpa using e
    refine A7 ?_;refine au 2 ((i)*38) u32 Qv rfl rfl rfl rfl rfl (by omega) (by omega) (iU.ne (by decide) (by omega)) (by show 0+Int.toNat _*38=_;omega) ?_;refine A6 ?_;refine xC 6 0 ?_;refine(Bl 20 [(0,_)]) (xU) (fun g2=>?_);refine(Qa (s:=20) (len:=o.length) (n2:=1) 5 7 (fun r=>[_,_,_,_,_,⟨some r.g,61,ak dQ o++dQ (p.i),r.n,true⟩,_,_]) Z7 XX) (gW.length o) h3 h4 (gW.one (p.i)) (fun r=>?_);refine A5 ?_;refine Ar (((i+1:Nat):Int)) ?_;refine A3 ?_;exact Nl ⟨⟨i+1,o++[p.i],some r.g,r.n,r.cap⟩,hlt,by show o++[p.i]=(c.take (i+1)).map (·.i);rw[<-fB hp,List.map_append,<-hI];rfl,by rw[List.length_append];exact r.h,r.hn,qjt hp hLL he,Xh hp hOK (qfc he)⟩ (hμ:=(by show c.length-(i+1)<c.length-i;omega)) (ht:=⟨rfl,rfl,rfl,(aB rfl (by rw[List.length_append];rfl)),rfl,rfl,rfl,rfl,trivial⟩) (hL:=(aj [some 0,some 1,some 2,some 3,some 4,some 5] ⟨pR,pR,pR,pR,pR,⟨_,rfl,aP (by rw[bD])⟩,trivial⟩ rfl rfl))
  ·have hge:i=c.length:=(by have:=of_decide_eq_false hb2;omega);subst hge;have hl0:=qhD hLL;have hoe:o=c.map (·.i):=by rw[hI,List.take_length]
   refine DV ?_;refine El (ι:={z:Nat×List Iv×Option Nat×Nat×Nat // z.1<=(ay a b).length∧z.2.1=((ay a b).take z.1).map (·.1)∧z.2.1.length<=z.2.2.2.2∧z.2.2.2.2*20<=z.2.2.2.1}) (fun⟨⟨j,q,qb,qN,qc⟩,hj,hJ,h5,h6⟩=>([(5,gU g0),(7,aI rb 0 (ay a b).length rc),(9,aI ob 0 o.length oc),(10,aI qb 0 q.length qc),(47,aI rb 0 (ay a b).length rc),(48,bV ((ay a b).length)),(49,bV j)],[⟨ab,100,ak aQ a,aN,false⟩,⟨bb,100,ak aQ b,bN,false⟩,⟨cb,63,ak pJ c,cN,false⟩,⟨some g0,40,qeR (aI cb 0 c.length cc) m,10,true⟩,⟨rb,93,ak C9 (ay a b),rN,true⟩,⟨ob,61,ak dQ o,oN,true⟩,⟨qb,61,ak dQ q,qN,true⟩],(ay a b).length-j)) ⟨⟨0,[],none,0,0⟩,Nat.zero_le _,rfl,Nat.le_refl _,by simp⟩ ?_ (hL:=(aj [some 0,some 1,some 2,some 3,some 4,some 5,none] ⟨pR,pR,pR,pR,pR,pR,⟨rfl,rfl,rfl⟩,trivial⟩ rfl rfl));rintro⟨⟨j,q,qb,qN,qc⟩,hj,hJ,h5,h6⟩;(try dsimp only);replace hj:j<=(ay a b).length:=hj;replace hJ:q=((ay a b).take j).map (·.1):=hJ;replace h5:q.length<=qc:=h5;replace h6:qc*20<=qN:=h6;have hql:q.length<=400:=by rw[hJ,List.length_map,List.length_take];omega
   refine A6 ?_;refine Cd ?_ ?_<;>intro hb4
   ·have hjt:j<(ay a b).length:=(by have:=of_decide_eq_true hb4;omega);obtain⟨y,hy⟩:∃y,(ay a b)[j]? =some y:=⟨_,List.getElem?_eq_getElem hjt⟩;refine gm 4 rfl (nH.ne (by decide) (by omega)) (fun hbs=>?_);obtain⟨gr,hgr⟩:=Option.isSome_iff_exists.1 hbs;replace hgr:rb=some gr:=hgr;subst hgr;refine A6 ?_;refine au 4 ((j)*32) u88 Ll rfl rfl rfl rfl rfl (by omega) (by omega) (nH.ne (by decide) (by omega)) (by show 0+Int.toNat _*32=_;omega) ?_;refine bn (v:=PtV y) 4 ((j)*32) _ rfl rfl rfl rfl Ll (nH.sub hy 0 32 (by decide)) rfl (by decide) rfl ?_;refine Al 32 z93 (fun g1=>?_);refine Ss 7 ?_;refine A5 ?_;refine xC 7 0 ?_;refine(Bl 20 [(0,_)]) (xU) (fun g2=>?_);refine(Qa (s:=20) (len:=q.length) (n2:=1) 6 8 (fun r=>[_,_,_,_,_,_,⟨some r.g,61,ak dQ q++dQ (y.1),r.n,true⟩,_,_]) Z7 XX) (gW.length q) h5 h6 (gW.one (y.1)) (fun r=>?_);refine A5 ?_;refine Ar (((j+1:Nat):Int)) ?_;refine A3 ?_;exact Nl ⟨⟨j+1,q++[y.1],some r.g,r.n,r.cap⟩,hjt,by show q++[y.1]=((ay a b).take (j+1)).map (·.1);rw[<-fB hy,List.map_append,<-hJ];rfl,by rw[List.length_append];exact r.h,r.hn⟩ (hμ:=(by show(ay a b).length-(j+1)<(ay a b).length-j;omega)) (ht:=⟨rfl,rfl,rfl,(aB rfl (by rw[List.length_append];rfl)),rfl,rfl,rfl,trivial⟩) (hL:=(aj [some 0,some 1,some 2,some 3,some 4,some 5,some 6] ⟨pR,pR,pR,pR,pR,pR,⟨_,rfl,aP (by rw[bD])⟩,trivial⟩ rfl rfl))
   ·have hge2:j=(ay a b).length:=(by have:=of_decide_eq_false hb4;omega);subst hge2;have hqe:q=(ay a b).map (·.1):=by rw[hJ,List.take_length]
    refine kL ?_;have hoS:kw S o:=fun x hx=>by rw[hoe] at hx;obtain⟨z,hz,rfl⟩:=List.mem_map.1 hx;exact hcS z hz
    have hoK:F7 ρ o:=fun x hx=>by rw[hoe] at hx;obtain⟨z,hz,rfl⟩:=List.mem_map.1 hx;exact(tY T (hcS z hz).1 (hcS z hz).2).1 (hOK z (by rw[List.take_length];exact hz))
    have hoz:∀x∈o,kT x<=50000:=fun x hx=>by rw[hoe] at hx;obtain⟨z,hz,rfl⟩:=List.mem_map.1 hx;exact Nat.le_trans (hcz z hz).1 (by omega)
    have hqS:kw S q:=fun x hx=>by rw[hqe] at hx;obtain⟨z,hz,rfl⟩:=List.mem_map.1 hx;exact(hPS z hz).1
    have hqK:F7 ρ q:=fun x hx=>by rw[hqe] at hx;obtain⟨z,hz,rfl⟩:=List.mem_map.1 hx;exact(hPS z hz).2
    have hqz:∀x∈q,kT x<=50000:=fun x hx=>by rw[hqe] at hx;obtain⟨z,hz,rfl⟩:=List.mem_map.1 hx;exact Nat.le_trans (hpz z hz).1 (by omega)
    have hno:=NL orB o [];have hnq:=NL orB q [];replace hno:(jG o).length<=4*o.length:=hno;replace hnq:(jG q).length<=4*q.length:=hnq;refine(Sc [5]) (rM T o ob oN oc h3 (by omega) hoS hoK hoz) (fun z1=>?_);refine A1 ?_;refine(Sc [6]) (rM T q qb qN qc h5 (by omega) hqS hqK hqz) (fun z2=>?_);refine(Sd [7,8]) (Kt (jG o) z1.b z1.n z1.cap z1.h (by omega) (jG q) z2.b z2.n z2.cap z2.h) ?_;refine A4 ?_;refine Cd ?_ ?_<;>intro hb5
    ·have r8:jG (c.map (·.i))≠jG ((ay a b).map (·.1)):=by have e:=hb5;rw[hoe,hqe] at e;simpa using e
     refine A8 ?_;refine aO rfl (ai rfl) (fun w hL=>⟨(),?_,hL.pk []⟩);exact congrArg (fun e:Int=>Ending.returned (.int .i64 e)) (qjE hk0 hl0 r8)
    ·have r8:jG (c.map (·.i))=jG ((ay a b).map (·.1)):=by have e:=hb5;rw[hoe,hqe] at e;simpa using e
     have hc0:=qfd T hPS hk0 r8;refine A3 ?_;refine L9 3 1 ?_;refine Pc (iW m hmz) ?_;refine A4 ?_;refine Cd ?_ ?_<;>intro hb6
     ·have r9:dN m=false:=by cases e:dN m<;>simp[e] at hb6 ⊢
      refine A8 ?_;refine aO rfl (ai rfl) (fun w hL=>⟨(),?_,hL.pk []⟩);exact congrArg (fun e:Int=>Ending.returned (.int .i64 e)) (qln hk0 hl0 r8 r9)
     ·have r9:dN m=true:=by cases e:dN m<;>simp[e] at hb6 ⊢
      refine A1 ?_;refine Di [] ?_;refine A1 ?_;refine L9 3 1 ?_;refine A2 ?_;refine(Sd [2]) (pW c cb cN cc hcc (by omega) (fun p hp=>⟨Nat.le_trans (hcz p hp).2.1 (by omega),Nat.le_trans (hcz p hp).2.2 (by omega)⟩) hc0) ?_;refine DL rfl rfl rfl rfl OA (O8 _ _) ?_;refine A3 ?_;refine Cd ?_ ?_<;>intro hb7
      ·have rx:m≠fF c:=by have e:=hb7;simpa using e
       refine A8 ?_;refine aO rfl (ai rfl) (fun w hL=>⟨(),?_,hL.pk []⟩);exact congrArg (fun e:Int=>Ending.returned (.int .i64 e)) (qjF hk0 hl0 r8 r9 rx)
      ·have rx:m=fF c:=by have e:=hb7;simpa using e
       refine A9 ?_;refine aO rfl (ai rfl) (fun w hL=>⟨(),?_,hL.pk []⟩);exact congrArg (fun e:Int=>Ending.returned (.int .i64 e)) (qlo hk0 hl0 r8 r9 rx)
def YV(l:List PU)(lb:Option Nat)(lN lc:Nat)(hlc:l.length<=lc:=by omega)(hln:l.length<=1000:=by omega)(h0:0<l.length:=by omega):bZ Tryz.prog 214 [⟨lb,201,ak aQ l,lN,false⟩] [aI lb 0 l.length lc] (OR l.length 36) (fun r=>aI r.b 0 l.length r.cap) (fun r=>[⟨r.b,201,ak aQ l,r.n,true⟩]):=by
 refine QF 8 Tryz.func214 fun w hL0=>?_;refine A7 ?_;refine gm 0 rfl (aC.ne (by decide) (by omega)) (fun hbs=>?_);obtain⟨gl,hgl⟩:=Option.isSome_iff_exists.1 hbs;replace hgl:lb=some gl:=hgl;subst hgl;refine A2 ?_;refine qfe ku rfl rfl rfl rfl ?_;refine A7 ?_;refine(Bl 0 []) (qdr) (fun g0=>?_);refine A1 ?_;refine Fz (s:=36) (len:=0) 1 0 (ak aQ l) (fun r=>[_,⟨r.b,201,ak aQ l,r.n,true⟩]) ku zx rfl rfl rfl rfl rfl rfl rfl rfl rfl rfl rfl (Nat.le_refl _) (Nat.le_refl _) (.inr ⟨_,rfl⟩) (by rw[List.drop_zero,<-aC.length l,List.take_length]) (aC.length l) (aC.ones _) (by omega) (fun _=>rfl) (fun r=>?_);refine A4 ?_;refine aO rfl (ai rfl) (fun w hL=>⟨⟨r.b,r.n,r.cap,Nat.le_trans (Nat.le_of_eq (Nat.zero_add _).symm) r.h,r.hn⟩,?_,hL.pk [some 1]⟩);exact congrArg (fun z=>Ending.returned (aI r.b 0 z r.cap)) (Nat.zero_add _)
def Ie(l:List PU)(lb:Option Nat)(lN lc:Nat)(hlc:l.length<=lc)(hln:l.length<=1000)(hlN:lc*36<=lN)(h20:l.length<20)(hs:WY l)(hz:∀u∈l,kT u.i<=50000):yx Tryz.prog 237 [⟨lb,201,ak aQ l,lN,true⟩] [aI lb 0 l.length lc,bV (l.length),.func (.func 216) #[] #[]] Unit (fun _=> .tuple #[]) (fun _=>[⟨lb,201,ak aQ l,lN,true⟩]):=by
 refine⟨by kernel_rfl,fun B w hD hL0=>?_⟩;refine cB3 63 Tryz.func237 hL0 ?_;refine DV ?_;refine El (ι:={u:Unit // True}) (fun⟨u,hu⟩=>([(0,aI lb 0 l.length lc),(1,bV (l.length)),(2,.func (.func 216) #[] #[]),(6,.int .i64 20),(7,.int .i64 0),(8,.int .i64 20)],[⟨lb,201,ak aQ l,lN,true⟩],0)) ⟨(),trivial⟩ ?_ (hL:=eF.auto);rintro⟨u,hu⟩;(try dsimp only);refine A8 ?_;refine Cd ?_ ?_<;>intro hb1
 ·exact absurd (of_decide_eq_true hb1) (by omega)
 ·refine A6 ?_;refine lT ?_;refine A4 ?_;refine Gm 1 [0] [] (fun _=>[_]) (qeX l lb lN lc hs hz hlc hlN) (fun _=>?_);refine A3 ?_;refine El (ι:={u:Unit // True}) (fun⟨u,hu⟩=>([(0,aI lb 0 l.length lc),(1,bV (l.length)),(2,.func (.func 216) #[] #[]),(6,.int .i64 20)],[⟨lb,201,ak aQ l,lN,true⟩],0)) ⟨(),trivial⟩ ?_ (hL:=eF.auto);rintro⟨u,hu⟩;(try dsimp only);refine A8 ?_;refine Cd ?_ ?_<;>intro hb3
  ·exact absurd (of_decide_eq_true hb3) (by omega)
  ·refine A4 ?_
   refine Jd rfl (fun w hL=>⟨(),?_,hL.pk [some 0]⟩);exact rfl
def Gx(l:List PU)(lb:Option Nat)(lN lc:Nat)(hlc:l.length<=lc)(hln:l.length<=1000)(hlN:lc*36<=lN)(h20:l.length<20)(hs:WY l)(hz:∀u∈l,kT u.i<=50000):yx Tryz.prog 215 [⟨lb,201,ak aQ l,lN,true⟩] [aI lb 0 l.length lc,.func (.func 216) #[] #[]] Unit (fun _=> .tuple #[]) (fun _=>[⟨lb,201,ak aQ l,lN,true⟩]):=by
 refine⟨by kernel_rfl,fun B w hD hL0=>?_⟩;refine cB2 9 Tryz.func215 hL0 ?_;refine lT ?_;refine A4 ?_;refine Gm 1 [0] [] (fun _=>[_]) (Ie l lb lN lc hlc hln hlN h20 hs hz) (fun _=>?_);refine A1 ?_
 refine Jd rfl (fun w hL=>⟨(),?_,hL.pk [some 0]⟩);exact rfl
def Ig(l:List PU)(lb:Option Nat)(lN lc:Nat)(hlc:l.length<=lc)(hln:l.length<=1000)(h0:0<l.length)(h20:l.length<20)(hs:WY l)(hz:∀u∈l,kT u.i<=50000):bZ Tryz.prog 184 [⟨lb,201,ak aQ l,lN,false⟩] [aI lb 0 l.length lc] (SR (l).length) SR.v (fun z=>[⟨z.b,201,ak aQ (l),z.n,true⟩]):=by
 refine QF 9 Tryz.func184 fun w hL0=>?_;refine A8 ?_;refine(Sc [0]) (YV l lb lN lc hlc hln h0) (fun z=>?_);obtain⟨ob,oN,oc,hoc,hoN⟩:=z;refine A4 ?_;refine lT ?_;refine A1 ?_;refine Gm 1 [1] [] (fun _=>[_,_]) (Gx l ob oN oc hoc hln hoN h20 hs hz) (fun _=>?_);refine A9 ?_;refine aO rfl (ai rfl) (fun w hL=>⟨⟨ob,oN,oc,hoc⟩,?_,hL.pk [some 1]⟩);exact rfl
def KJ(t:Rl)(f:Ln)(o:List PU)(ob:Option Nat)(oN oc n0 gv:Nat)(hn0:n0=o.length)(h3:n0<=oc:=by omega)(h4:oc*36<=oN:=by omega)(hm:n0<=100000:=by omega):yx Tryz.prog 219 [⟨some gv,148,[aI ob 0 n0 oc],1,true⟩,⟨ob,201,ak aQ o,oN,true⟩] [RV t,wH f,gU gv] (OR (n0+1) 36) (fun _=> .tuple #[]) (fun r=>[⟨some gv,148,[aI r.b 0 (n0+1) r.cap],1,true⟩,⟨r.b,201,ak aQ (o++[yl t f]),r.n,true⟩]):=by
 refine⟨by kernel_rfl,fun B w hD hL0=>?_⟩;refine cB3 13 Tryz.func219 hL0 ?_;refine A2 ?_;refine Bp 9 (fun g0=>?_);refine Bp 16 (fun g1=>?_);refine A4 ?_;refine L9 2 0 ?_;refine L9 2 0 ?_;refine(Bu [(0,_),(1,_)]) (Ox) ?_;refine Kr 8 (mG ⟨t,t,false,false⟩) ?_;refine X7 3 0 ?_;refine(Bu [(0,_),(1,_)]) (D6) ?_;refine Kr 10 (UQ (yl t f)) ?_;refine(Bl 36 [(0,_)]) (qJ) (fun g2=>?_);refine(Qa (s:=36) (len:=n0) (n2:=1) 1 4 (fun r=>[_,⟨some r.g,201,ak aQ o++aQ (yl t f),r.n,true⟩,_,_,_]) ku zx) (by exact(by rw[aC.length,hn0])) h3 h4 (aC.one (yl t f)) (fun r=>?_);refine Ss 0 ?_;refine A1 ?_
 refine Jd rfl (fun w hL=>⟨⟨some r.g,r.n,r.cap,r.h,r.hn⟩,?_,hL.picks [some 0,some 1] ⟨pR,⟨_,rfl,aP (by rw[bD])⟩,trivial⟩ rfl rfl⟩);exact rfl
def BV(l:List PU)(lb:Option Nat)(lN lc:Nat)(hlc:l.length<=lc)(hln:l.length<=1000)(t:Rl):bZ Tryz.prog 188 [⟨lb,201,ak aQ l,lN,false⟩] [aI lb 0 l.length lc,RV t] Unit (fun _=> .bool (oW l t)) (fun _=>[]):=by
 refine VU 31 Tryz.func188 fun w hL0=>?_;refine A2 ?_;refine Bp 9 (fun g0=>?_);refine qf ?_;refine AV 0 rfl (fun hba=>?_);have hlb:l.length=0∨∃g,lb=some g:=EN aC (by decide) hba;refine Di [] ?_ (hc:=(lW [0,1,3,7,7,23,63,127,255,511,7,2047,4095,8191,16383,16383,49151,131071,262143,524287,1048575,2097151,4194303,8388607] (by kernel_rfl)));refine A3 ?_;refine Rs 10 ?_ ?_<;>intro hb0
 ·have hlt:0<l.length:=(by have:=of_decide_eq_true hb0;omega);obtain⟨u,hu⟩:∃u,l[l.length-1]? =some u:=⟨_,List.getElem?_eq_getElem (by omega)⟩;obtain⟨gl,hgl⟩:=hlb.resolve_left (by omega);subst hgl;refine A2 ?_;refine(Aq ((l.length:Int)-1)) (by exact(congrArg some (wi (by omega) (by omega) rfl))) ?_;refine au 0 ((l.length-1)*36) ku jh rfl rfl rfl rfl rfl (by omega) (by omega) (aC.ne (by decide) (by omega)) (by show 0+Int.toNat _*36=_;omega) ?_;refine Fg ((l.length-1)*36) 0 ?_;refine Fg ((l.length-1)*36+0) 9 ?_;refine bn (v:=RV u.i.t) 0 ((l.length-1)*36+0+9) _ rfl rfl rfl rfl wL (aC.sub hu 9 9 (by decide)) rfl (by decide) rfl ?_;refine L9 1 0 ?_;refine fG rfl rfl rfl rfl OA (O8 _ _) ?_;refine A2 ?_;refine Rs 21 ?_ ?_<;>intro hb1
  ·have hut:decide (u.i.t=t)=true:=hb1;refine A2 ?_;refine(Aq ((l.length:Int)-1)) (by exact(congrArg some (wi (by omega) (by omega) rfl))) ?_;refine au 0 ((l.length-1)*36) ku jh rfl rfl rfl rfl rfl (by omega) (by omega) (aC.ne (by decide) (by omega)) (by show 0+Int.toNat _*36=_;omega) ?_;refine Fg ((l.length-1)*36) 0 ?_;refine Fg ((l.length-1)*36+0) 19 ?_;refine bn (v:= .bool u.i.tp) 0 ((l.length-1)*36+0+19) _ rfl rfl rfl rfl ti4 (aC.sub hu 19 1 (by decide)) rfl (by decide) rfl ?_;refine A6 ?_;refine aO rfl (ai rfl) (fun w hL=>⟨(),?_,hL.pk []⟩);rw[NR hu,hut];rfl
  ·have hut:decide (u.i.t=t)=false:=hb1;refine BC ?_;refine aO rfl (ai rfl) (fun w hL=>⟨(),?_,hL.pk []⟩);rw[NR hu,hut];rfl
 ·have hlt:¬0<l.length:=by have e:=of_decide_eq_false hb0;omega
  refine A24 ?_;refine aO rfl (ai rfl) (fun w hL=>⟨(),?_,hL.pk []⟩);rw[YQ hlt]
end Go.Proofs.YtaffcpfhedadhaaGreatDoor
