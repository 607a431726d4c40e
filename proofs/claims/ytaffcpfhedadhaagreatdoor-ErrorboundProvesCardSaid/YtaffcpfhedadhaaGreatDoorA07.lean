/-
  Part 7 (chapter 32): lemmas, walks. Each theorem states its own conditions.
-/
import Derived.ChangeSame
import Derived.OpenShut
import Derived.RowKit3
import Derived.ProofKit
import Derived.Deep.Slices
import Derived.Carry
import Derived.ChangeMaps5
import Derived.Test.YtaffcpfhedadhaaGreatDoorCards
import Derived.Test.YtaffcpfhedadhaaGreatDoorTie
import Derived.WalkKit
import Derived.Deep.DeepHandedRow
import Derived.Lib.LaidTab
import Derived.WalkSpells
import Derived.Lib.SliceRun
import Derived.Test.YtaffcpfhedadhaaGreatDoorA02
import Derived.Test.YtaffcpfhedadhaaGreatDoorA03
import Derived.Test.YtaffcpfhedadhaaGreatDoorA04
import Derived.Test.YtaffcpfhedadhaaGreatDoorA05
import Derived.Test.YtaffcpfhedadhaaGreatDoorA06
set_option linter.all false
set_option maxRecDepth 20000
set_option maxHeartbeats 20000000
namespace Go.Proofs.YtaffcpfhedadhaaGreatDoor
open Go Go.RowKit Go.Via Go.ChangeShapes Go.WideShapes
def Vl{w w':World}(h:Below w.heap.size w w')(may:MemPlace->Prop):w.keptBut w' may:=by
 have hb:∀b,b<w.heap.size->w'.heap[b]? =w.heap[b]? :=h.block;refine⟨h.os,h.output,fun i hi=>?_⟩
 rw[hb i hi]
 split
 ·rename_i e1 e2
  rw[e1] at e2;cases e2;exact⟨rfl,rfl,rfl,fun _ _=>rfl⟩
 ·rename_i e1 e2
  rw[e1] at e2;cases e2;exact Or.inr ⟨rfl,rfl⟩
 ·rfl
def qb8{α:Type}(a0:α){n:Nat}{p:Nat->α->Prop}(h:∀i,i<n->∃x,p i x):∃f:Nat->α,∀i,i<n->p i (f i):=by
 classical
 refine⟨fun i=>if h':i<n then Classical.choose (h i h') else a0,fun i hi=>?_⟩
 show p i (if h':i<n then Classical.choose (h i h') else a0)
 rw[dif_pos hi];exact Classical.choose_spec (h i hi)
def qb9{w:World}{a:Addr}{cs:List Value}(e:TypeId)(he:e<dC)(hne:cs≠[])(h:∀(j:Nat) (v:Value),cs[j]? =some v->w.cell? (a.add j)=some v):
 ∃(g:Nat) (pre:List Value) (N:Nat),a=⟨g,pre.length,none⟩∧rY (Bs.of w) w ⟨some g,e,pre++cs,N,false⟩ g:=by
 obtain⟨c0,l,rfl⟩:=List.exists_cons_of_ne_nil hne;have h0:=h 0 c0 rfl;rw[show a.add 0=a by simp[Addr.add]] at h0;obtain⟨g,off,spot⟩:=a;have h0':=h0;unfold World.cell? at h0'
 split at h0'
 ·rename_i cur e0 fr heq
  split at h0'
  ·cases h0'
  ·rename_i hsp
   have hsn:spot=none:=by cases spot with|none=>rfl|some z=>simp at hsp
   subst hsn;have hoff:off<cur.size:=(Array.getElem?_eq_some_iff.1 h0').1;have hpl:(cur.toList.take off).length=off:=by simp;omega
   refine⟨g,cur.toList.take off,cur.size,by rw[hpl],?_⟩;refine⟨.inl ⟨cur,⟨e0,fr,heq,(fun h=>by cases h),he⟩,rfl,?_⟩,fun h=>by cases h⟩
   refine List.ext_getElem? fun j=>?_
   show(cur.toList.take (cur.toList.take off++c0::l).length)[j]? =_;rw[List.length_append,hpl]
   by_cases hj:j<off
   ·rw[List.getElem?_append_left (by rw[hpl];exact hj),List.getElem?_take,List.getElem?_take,if_pos (by omega),if_pos hj]
   ·rw[List.getElem?_append_right (by rw[hpl];omega),hpl,List.getElem?_take]
    split
    ·rename_i hj2
     obtain⟨v,hv⟩:∃v,(c0::l)[j-off]? =some v:=⟨_,List.getElem?_eq_getElem (by omega)⟩;have k2:=h _ _ hv;rw[jW] at k2;unfold World.cell? at k2;simp only[heq] at k2;rw[show off+(j-off)=j by omega] at k2;rw[hv,<-k2];simp
    ·rename_i hj2
     rw[List.getElem?_eq_none (by omega)]
 ·cases h0'
theorem TD{f:Nat->List Value}{k:Nat}:∀{n:Nat},(∀i,i<n->(f i).length=k)->((List.range n).flatMap f).length=n*k
 |0,_=>by simp
 |n+1,h=>by rw[List.range_succ,List.flatMap_append,List.length_append,TD (n:=n) (fun i hi=>h i (by omega))];simp[h n (by omega)];rw[Nat.succ_mul]
def Vm{w:World}{a:Addr}{k n:Nat}{f:Nat->List Value}(hf:∀i,i<n->w.cells? 0 (a.add (i*k)) k=some (f i))(hk:∀i,i<n->(f i).length=k)(h0:0<k):
 ∀(j:Nat) (v:Value),((List.range n).flatMap f)[j]? =some v->w.cell? (a.add j)=some v:=by
 induction n with
 |zero=>intro j v h;simp at h
 |succ n ih=>
  intro j v h;rw[List.range_succ,List.flatMap_append] at h;have hl:=TD (f:=f) (k:=k) (n:=n) (fun i hi=>hk i (by omega))
  by_cases hj:j<n*k
  ·rw[List.getElem?_append_left (by rw[hl];exact hj)] at h;exact ih (fun i hi=>hf i (by omega)) (fun i hi=>hk i (by omega)) j v h
  ·rw[List.getElem?_append_right (by rw[hl];omega),hl] at h;simp only[List.flatMap_cons,List.flatMap_nil,List.append_nil] at h;have hjl:j-n*k<k:=by
    have:=(List.getElem?_eq_some_iff.1 h).1
    rwa [hk n (by omega)] at this
   obtain⟨_,_,hc⟩:=World.cells?_some (hf n (by omega));have:=hc (j-n*k) hjl;rw[h,Addr.add_add] at this;rw[<-this]
   congr 2
   omega
def qhY{W:World}{L:List aG}(ho:∀b∈L,b.own=false)(h:∀b∈L,(∀g,b.base=some g->rY (Bs.of W) W b g)∧(b.base=none->b.cs=[]∧b.n=0∧∀T:LK,Hy T=true->b.e=gE T->∀p∈T,tV W p)):bf (Bs.of W) L W:=by
 refine⟨mO.of (fP.refl _ _),fun k b hk=>?_,fun i j g bi bj hij hi hj hio=>?_,fun b hb hn T hT he p hp=>?_⟩
 ·have:=h b (List.mem_of_getElem? hk);exact⟨this.1,fun hn=>⟨(this.2 hn).1,(this.2 hn).2.1⟩⟩
 ·rw[ho bi (List.mem_of_getElem? hi)] at hio;cases hio
 ·refine⟨((h b hb).2 hn).2.2 T hT he p hp,fun hbo=>?_,fun c hc hco=>?_⟩
  ·rw[ho b hb] at hbo;cases hbo
  ·rw[ho c hc] at hco;cases hco
def qca{p:Program}{fits:TypeId->Bool}{d e count off n:Nat}(h:rowAt p fits d e count off n=true):off<=count*p.cellsOf e:=by
 cases d with
 |zero=>cases h
 |succ d=>
  unfold rowAt at h;dsimp only at h
  split at h
  ·cases h
  ·rename_i hs
   have hd:=Nat.div_add_mod off (p.cellsOf e);have hlt:=Nat.mod_lt off (Nat.pos_of_ne_zero hs);rw[Bool.or_eq_true] at h;rcases h with h|h
   ·simp only[Bool.and_eq_true,beq_iff_eq,decide_eq_true_eq] at h;have:p.cellsOf e*(off/p.cellsOf e)<=p.cellsOf e*count:=Nat.mul_le_mul_left _ (by omega);rw[Nat.mul_comm count];omega
   ·rw[Bool.and_eq_true,decide_eq_true_eq] at h;have:p.cellsOf e*(off/p.cellsOf e+1)<=p.cellsOf e*count:=Nat.mul_le_mul_left _ (by omega);rw[Nat.mul_add,Nat.mul_one] at this;rw[Nat.mul_comm count];omega
def OC{p:Program}:∀{d e count off u n:Nat},liesAt p d e count off u n=true->off<=count*p.cellsOf e
 |0,_,_,_,_,_,h=>by cases h
 |d+1,e,count,off,u,n,h=>by
  unfold liesAt at h;rw[Bool.or_eq_true] at h;rcases h with h|h
  ·exact qca h
  ·split at h
   ·exact OC h
   ·cases h
def qfk{W:World}{r:Reach}{base:Nat}{a:Addr}{e n:Nat}(h:W.has Tryz.prog r base a e n):∃(g:Nat) (pre:List Value) (N:Nat),a=⟨g,pre.length,none⟩∧rY (Bs.of W) W ⟨some g,86,pre++[],N,false⟩ g:=by
 obtain⟨_,hsp,row,cells,hsh,hl⟩:=h;obtain⟨g,off,spot⟩:=a;simp only at hsp hsh hl;subst hsp;unfold World.shape? at hsh
 split at hsh
 ·rename_i cur elem fr heq
  cases hsh;have h1:=OC hl;have h2:off<=cur.size:=Nat.le_trans h1 (Nat.div_mul_le_self _ _);have hpl:(cur.toList.take off).length=off:=by simp;omega
  refine⟨g,cur.toList.take off,cur.size,by rw[hpl],.inl ⟨cur,⟨_,_,heq,(fun h=>by cases h),(show 86<dC by decide)⟩,rfl,?_⟩,fun h=>by cases h⟩
  show cur.toList.take (cur.toList.take off++[]).length=cur.toList.take off++[];rw[List.append_nil,hpl]
 ·cases hsh
abbrev TE(W:World)(b:aG):Prop:=(∀g,b.base=some g->rY (Bs.of W) W b g)∧(b.base=none->b.cs=[]∧b.n=0∧∀T:LK,Hy T=true->b.e=gE T->∀p∈T,tV W p)
def qjA{W:World}:∀{L:List aG},List.foldr (fun b p=>(b.own=false∧TE W b)∧p) True L->bf (Bs.of W) L W:=fun {L} h=>by
 have key:∀L:List aG,List.foldr (fun b p=>(b.own=false∧TE W b)∧p) True L->∀b∈L,b.own=false∧TE W b:=by
  intro L
  induction L with
  |nil=>intro _ b hb;cases hb
  |cons a L ih=>
   intro h b hb;rcases List.mem_cons.1 hb with rfl|hb
   ·exact h.1
   ·exact ih h.2 b hb
 exact qhY (fun b hb=>(key L h b hb).1) (fun b hb=>(key L h b hb).2)
def Ql{W:World}{b:Option Nat}{e N:Nat}{cs:List Value}(he:e<dC)(h1:∀g,b=some g->rY (Bs.of W) W ⟨b,e,cs,N,false⟩ g)(h2:b=none->cs=[]∧N=0):TE W ⟨b,e,cs,N,false⟩:=
 ⟨h1,fun hn=>⟨(h2 hn).1,(h2 hn).2,fun T _ he'=>absurd (he'▸he) (Jd T)⟩⟩
section
variable{H:Type}{enc:TypeId×Value->H}{w:World}
theorem ce5:Tryz.prog.cellsOf 5=1:=by kernel_rfl
theorem qlh:Tryz.prog.cellsOf 22=1:=by kernel_rfl
theorem qli:Tryz.prog.cellsOf 24=4:=by kernel_rfl
theorem qlj:Tryz.prog.cellsOf 26=9:=by kernel_rfl
theorem qjB:Tryz.prog.cellsOf 86=4:=by kernel_rfl
abbrev Rd(w:World)(enc:TypeId×Value->H)(fuel t:Nat)(cs:List Value)(x:DataW H×List MemPlace):Prop:=DataW.trod enc Tryz.prog w 0 (fun _=>true) true fuel t cs=some x
def oU8{fuel:Nat}{c:Value}{x:DataW H×List MemPlace}(h:Rd w enc fuel 5 [c] x):∃m:Nat,m<256∧c= .int .u8 (m:Nat):=by
 obtain⟨n,e,_,hk⟩:=DataW.trod_int Tryz.underlying5 h;simp only[Lit.wf,Bool.and_eq_true,decide_eq_true_eq] at hk;have h1:0<=n:=hk.1;have h2:n<=255:=hk.2;refine⟨n.toNat,by omega,?_⟩;rw[Int.toNat_of_nonneg h1]
 simpa using e
def qlk{fuel:Nat}{cs:List Value}{x:DataW H×List MemPlace}(h:Rd w enc fuel 86 cs x):∃s:sV,YT s∧cs=kQ s:=by
 obtain⟨xs,n,_,rfl,hl,hlen,hf⟩:=DataW.trod_struct Tryz.underlying86 h;rw[qjB] at hl
 match cs,hl,xs,hlen with
 |[c0,c1,c2,c3],_,[y0,y1,y2,y3],_=>
  have f0:Rd w enc n 5 ((([c0,c1,c2,c3]:List Value).drop 0).take (Tryz.prog.cellsOf 5)) y0:=hf 0 _ rfl;have f1:Rd w enc n 5 ((([c0,c1,c2,c3]:List Value).drop 1).take (Tryz.prog.cellsOf 5)) y1:=hf 1 _ rfl;have f2:Rd w enc n 5 ((([c0,c1,c2,c3]:List Value).drop 2).take (Tryz.prog.cellsOf 5)) y2:=hf 2 _ rfl;have f3:Rd w enc n 5 ((([c0,c1,c2,c3]:List Value).drop 3).take (Tryz.prog.cellsOf 5)) y3:=hf 3 _ rfl;rw[ce5] at f0 f1 f2 f3;obtain⟨a,ha,rfl⟩:=oU8 f0;obtain⟨b,hb,rfl⟩:=oU8 f1;obtain⟨c,hc,rfl⟩:=oU8 f2;obtain⟨d,hd,rfl⟩:=oU8 f3;exact⟨⟨a,b,c,d⟩,⟨ha,hb,hc,hd⟩,rfl⟩
structure qfl(w:World)(l:List sV)(b:Option Nat)(pre:List Value)(N cap:Nat):Prop where
 le:l.length<=cap
 ok:∀s∈l,YT s
 blk:TE w ⟨b,86,pre++ah kQ l,N,false⟩
def qhZ{r:Reach}{b0 fuel:Nat}{v:Value}{x:DataW H×List MemPlace}(hval:Cell.ok Tryz.prog w r b0 22 v)(h:Rd w enc fuel 22 [v] x):
 ∃(l:List sV) (b:Option Nat) (pre:List Value) (N cap:Nat),v=az b pre.length l.length cap∧qfl w l b pre N cap:=by
 rcases DataW.trod_slice Tryz.underlying22 h with⟨h1,_⟩|⟨a,len,cap,elems,rest,m,hm,h1,h2,_,hlc,_,hel,hx,_,_⟩
 ·obtain rfl:v= .slice none 0 0:=by simpa using h1
  exact⟨[],none,[],0,0,rfl,Nat.le_refl _,by simp,Ql (by decide) (fun g hg=>by cases hg) fun _=>⟨rfl,rfl⟩⟩
 ·obtain rfl:v= .slice (some a) len cap:=by simpa using h1
  rw[qjB] at hx;obtain⟨F,hF⟩:=qb8 (α:=sV) ⟨0,0,0,0⟩ (n:=len) (p:=fun i s=>YT s∧w.cells? 0 (a.add (i*4)) 4=some (kQ s)) (fun i hi=>by
 obtain⟨y,hy⟩:∃y,elems[i]? =some y:=⟨_,List.getElem?_eq_getElem (by omega)⟩;have hxi:=hx i hi;rw[hy] at hxi;obtain⟨row,r1,r2⟩:=Option.bind_eq_some_iff.1 hxi;obtain⟨s,hs,rfl⟩:=qlk r2;exact⟨s,hs,r1⟩)
  by_cases h0:len=0
  ·subst h0;unfold Cell.ok at hval;rw[Tryz.underlying22] at hval;obtain⟨g,pre,N,rfl,hB⟩:=qfk hval.2.2;exact⟨[],some g,pre,N,cap,rfl,Nat.zero_le _,by simp,Ql (by decide) (fun g' hg'=>by cases hg';exact hB) fun h=>by cases h⟩
  ·have hSB:ah kQ ((List.range len).map F)=(List.range len).flatMap fun i=>kQ (F i):=by
    unfold ah;rw[List.flatMap_map]
   have hlen:((List.range len).map F).length=len:=(by simp);have hne:ah kQ ((List.range len).map F)≠[]:=fun e=>by
    have:=congrArg List.length e;rw[kJ.length,hlen] at this;simp at this;omega
   obtain⟨g,pre,N,rfl,hB⟩:=qb9 (w:=w) (a:=a) 86 (by decide) hne (by
 rw[hSB];exact Vm (k:=4) (fun i hi=>(hF i hi).2) (fun i hi=>rfl) (by decide))
   refine⟨(List.range len).map F,some g,pre,N,cap,by rw[hlen];rfl,by rw[hlen];exact hlc,fun s hs=>?_,Ql (by decide) (fun g' hg'=>by cases hg';exact hB) fun h=>by cases h⟩
   obtain⟨i,hi,rfl⟩:=List.mem_map.1 hs;exact(hF i (List.mem_range.1 hi)).1
def qjC{r:Reach}{b0 fuel:Nat}{c0 c1 c2 c3:Value}{x:DataW H×List MemPlace}(hval:Cell.ok Tryz.prog w r b0 22 c3)(h:Rd w enc fuel 24 [c0,c1,c2,c3] x):
 ∃(t x y:Nat) (l:List sV) (b:Option Nat) (pre:List Value) (N cap:Nat),(t<256∧x<256∧y<256)∧[c0,c1,c2,c3]=[.int .u8 (t:Nat),.int .u8 (x:Nat),.int .u8 (y:Nat),az b pre.length l.length cap]∧qfl w l b pre N cap:=by
 obtain⟨xs,n,_,rfl,hl,hlen,hf⟩:=DataW.trod_struct Tryz.underlying24 h
 match xs,hlen with
 |[y0,y1,y2,y3],_=>
  have f0:Rd w enc n 5 ((([c0,c1,c2,c3]:List Value).drop 0).take (Tryz.prog.cellsOf 5)) y0:=hf 0 _ rfl;have f1:Rd w enc n 5 ((([c0,c1,c2,c3]:List Value).drop 1).take (Tryz.prog.cellsOf 5)) y1:=hf 1 _ rfl;have f2:Rd w enc n 5 ((([c0,c1,c2,c3]:List Value).drop 2).take (Tryz.prog.cellsOf 5)) y2:=hf 2 _ rfl;have f3:Rd w enc n 22 ((([c0,c1,c2,c3]:List Value).drop 3).take (Tryz.prog.cellsOf 22)) y3:=hf 3 _ rfl;rw[ce5] at f0 f1 f2;rw[qlh] at f3;obtain⟨a,ha,rfl⟩:=oU8 f0;obtain⟨b,hb,rfl⟩:=oU8 f1;obtain⟨c,hc,rfl⟩:=oU8 f2;obtain⟨l,bb,pre,N,cap,rfl,hs⟩:=qhZ hval f3;exact⟨a,b,c,l,bb,pre,N,cap,⟨ha,hb,hc⟩,rfl,hs⟩
def qfm{r:Reach}{b0:Nat}{v:Value}{d:DataW H}{ps:List MemPlace}(hval:Value.okWide Tryz.prog w r b0 26 v)(hd:DataW.Trod enc Tryz.prog w 0 (fun _=>true) true 26 v d ps):
 ∃(ta xa ya tb xb yb ch:Nat) (a b:List sV) (ab:Option Nat) (pa:List Value) (aN ac:Nat) (bb:Option Nat) (pb:List Value) (bN bc:Nat),(ta<256∧xa<256∧ya<256∧tb<256∧xb<256∧yb<256∧ch<256)∧
  v= .agg #[.int .u8 (ta:Nat),.int .u8 (xa:Nat),.int .u8 (ya:Nat),az ab pa.length a.length ac,.int .u8 (tb:Nat),.int .u8 (xb:Nat),.int .u8 (yb:Nat),az bb pb.length b.length bc,.int .u8 (ch:Nat)]∧qfl w a ab pa aN ac∧qfl w b bb pb bN bc:=by
 obtain⟨cs,rfl,hcs⟩:=okWide_struct Tryz.underlying26 hval;obtain⟨fuel,hf⟩:=hd;have hrow:Row.okWide Tryz.prog w r b0 26 cs:=by
  unfold Value.okWide at hval;rw[Tryz.underlying26] at hval;obtain⟨cs',e,_,h⟩:=hval;cases e;exact h
 obtain⟨ts,hts,_,hall⟩:=hrow;obtain rfl:ts=[5,5,5,22,5,5,5,22,5]:=Option.some.inj (hts.symm.trans (show Tryz.prog.cellTypes Tryz.prog.depth 26=some [5,5,5,22,5,5,5,22,5] by kernel_rfl));obtain⟨xs,n,hn,hx,hl,hlen,hf⟩:=DataW.trod_struct Tryz.underlying26 hf;rw[qlj] at hl;obtain⟨cl⟩:=cs
 match cl,hl,xs,hlen with
 |[c0,c1,c2,c3,c4,c5,c6,c7,c8],_,[y0,y1,y2],_=>
  have f0:Rd w enc n 24 ((([c0,c1,c2,c3,c4,c5,c6,c7,c8]:List Value).drop 0).take (Tryz.prog.cellsOf 24)) y0:=hf 0 _ rfl;have f1:Rd w enc n 24 ((([c0,c1,c2,c3,c4,c5,c6,c7,c8]:List Value).drop 4).take (Tryz.prog.cellsOf 24)) y1:=hf 1 _ rfl;have f2:Rd w enc n 5 ((([c0,c1,c2,c3,c4,c5,c6,c7,c8]:List Value).drop 8).take (Tryz.prog.cellsOf 5)) y2:=hf 2 _ rfl;rw[qli] at f0 f1;rw[ce5] at f2;obtain⟨u3,hu3,hok3⟩:=hall 3 c3 rfl;obtain rfl:u3=22:=(by simpa using hu3.symm);obtain⟨u7,hu7,hok7⟩:=hall 7 c7 rfl;obtain rfl:u7=22:=(by simpa using hu7.symm);have ok:∀c,Cell.okWide Tryz.prog w r b0 22 c->Cell.ok Tryz.prog w r b0 22 c:=fun c hok=>by
   unfold Cell.okWide at hok;rw[Tryz.underlying22] at hok;exact hok
  obtain⟨ta,xa,ya,a,ab,pa,aN,ac,⟨h1,h2,h3⟩,e1,sa⟩:=qjC (ok c3 hok3) f0;obtain⟨tb,xb,yb,b,bb,pb,bN,bc,⟨h4,h5,h6⟩,e2,sb⟩:=qjC (ok c7 hok7) f1;obtain⟨ch,h7,rfl⟩:=oU8 f2;simp only[List.cons.injEq,and_true] at e1 e2;obtain⟨rfl,rfl,rfl,rfl⟩:=e1;obtain⟨rfl,rfl,rfl,rfl⟩:=e2;exact⟨ta,xa,ya,tb,xb,yb,ch,a,b,ab,pa,aN,ac,bb,pb,bN,bc,⟨h1,h2,h3,h4,h5,h6,h7⟩,rfl,sa,sb⟩
end
end Go.Proofs.YtaffcpfhedadhaaGreatDoor
namespace Go.Proofs.YtaffcpfhedadhaaGreatDoor
open Go.ChangeShapes Go.WideShapes Go.ChangeAt Go.RowKit
def own:ownKnob Tryz.prog.godebug=none:=by kernel_rfl
noncomputable def GR(os:Os):World:=
 let w0:=World.holding Tryz.prog os ⟨#[],#[],[]⟩
 {w0 with heap:=(w0.heap.modify 2 fun
 | .cells _ t frozen=> .cells (List.map (Value.int .u8) ([128,191,160,191,128,159,144,191,128,143]++List.replicate 22 0)).toArray t frozen
 |o=>o).modify 1 fun
 | .cells _ t frozen=> .cells (List.map (fun(z:Nat)=>Value.int .u8 z) Go.Pinned.utf8FirstZ).toArray t frozen
 |o=>o}
set_option maxRecDepth 100000 in
def qcb(os:Os)(args:Array Value):laidMet Tryz.prog [("unicode/utf8.acceptRanges",Rows.laid_unicode_utf8_acceptRanges),("unicode/utf8.first",Rows.laid_unicode_utf8_first)] ((GR os).forCall (fun _ _=>0) ⟨#[],args,[]⟩).memory:=
 laidMet_of_run' 8 (by kernel_rfl) (by kernel_rfl)
end Go.Proofs.YtaffcpfhedadhaaGreatDoor
namespace Go.Proofs.YtaffcpfhedadhaaGreatDoor
open Go Go.RowKit Go.Via
def AV{S:Rl->Prop}{ρ:Rl->Int}(T:gU S ρ)(kf:Nat)(keep:Bool->Bool->Bool)(hkp:∀x y,aP Tryz.prog kf #[.bool x,.bool y] (.bool (keep x y)))(h0:keep false false=false)(a:List Iv)(ab:Option Nat)(aN ac:Nat)(hac:a.length<=ac)(han:a.length<=1000)(b:List Iv)(bb:Option Nat)(bN bc:Nat)(hbc:b.length<=bc)(hbn:b.length<=1000)(ha:kE S a)(hb:kE S b)(oka:Gp ρ a)(okb:Gp ρ b)(hza:∀x∈a,jV x<=50000)(hzb:∀x∈b,jV x<=50000):dh Tryz.prog 152 [⟨ab,61,ah bP a,aN,false⟩,⟨bb,61,ah bP b,bN,false⟩] [az ab 0 a.length ac,az bb 0 b.length bc,.func (.func kf) #[] #[]] (SR (kY keep a b).length) SR.v (fun z=>[⟨z.b,61,ah bP (kY keep a b),z.n,true⟩]):=by
 refine⟨by kernel_rfl,fun w hL0=>?_⟩
 have hha:kE (fun x=>S x∧gY x<=50000) a:=fun i hi=>⟨⟨(ha i hi).1,Nat.le_trans (kw i) (hza i hi)⟩,(ha i hi).2,Nat.le_trans (kz i) (hza i hi)⟩
 have hhb:kE (fun x=>S x∧gY x<=50000) b:=fun i hi=>⟨⟨(hb i hi).1,Nat.le_trans (kw i) (hzb i hi)⟩,(hb i hi).2,Nat.le_trans (kz i) (hzb i hi)⟩
 refine ZI 127 Tryz.func152 hL0 ?_;refine zT ?_;refine(Bl 2 [(0,_),(1,_)]) (qdA) (fun g0=>?_);refine A5 ?_;refine El (ι:={z:Nat×List KT×Option Nat×Nat×Nat // z.1<=2∧z.2.1=evK a b z.1∧z.2.1.length<=z.2.2.2.2∧z.2.2.2.2*12<=z.2.2.2.1}) (fun⟨⟨k,o,ob,oN,oc⟩,hk,hI,h3,h4⟩=>([(2,.func (.func kf) #[] #[]),(7,az ob 0 o.length oc),(23,az (some g0) 0 2 2),(24,.int .i64 2),(25,.int .i64 ((k:Nat):Int))],[⟨ab,61,ah bP a,aN,false⟩,⟨bb,61,ah bP b,bN,false⟩,⟨some g0,74,[az ab 0 a.length ac,az bb 0 b.length bc],2,true⟩,⟨ob,253,ah kG o,oN,true⟩],2-k)) ⟨⟨0,[],none,0,0⟩,Nat.zero_le _,rfl,Nat.le_refl _,by simp⟩ ?_ (hL:=(au [some 0,some 1,some 2,none] ⟨pR,pR,pR,⟨rfl,rfl,rfl⟩,trivial⟩ rfl rfl));rintro⟨⟨k,o,ob,oN,oc⟩,hk,hI,h3,h4⟩;(try dsimp only);replace hk:k<=2:=hk;replace hI:o=evK a b k:=hI;replace h3:o.length<=oc:=h3;replace h4:oc*12<=oN:=h4;rcases(show k=0∨k=1∨k=2 by omega) with rfl|rfl|rfl
 ·refine A6 ?_;refine Cd ?_ ?_<;>intro hb2
  ·refine A7 ?_;refine ai 2 0 qiV qiP rfl rfl rfl rfl rfl (by omega) (by omega) (by simp) (by show 0+Int.toNat _*1=_;rfl) ?_;refine CB ?_;refine El (ι:={z:Nat×List KT×Option Nat×Nat×Nat // z.1<=a.length∧z.2.1=CG (a.take z.1)∧z.2.1.length<=z.2.2.2.2∧z.2.2.2.2*12<=z.2.2.2.1}) (fun⟨⟨i,o,ob,oN,oc⟩,hi,hI,h3,h4⟩=>([(2,.func (.func kf) #[] #[]),(7,az ob 0 o.length oc),(23,az (some g0) 0 2 2),(24,.int .i64 2),(25,.int .i64 ((0:Nat):Int)),(8,.int .i64 ((0:Nat):Int)),(30,az ab 0 a.length ac),(31,bz (a.length)),(32,bz i)],[⟨ab,61,ah bP a,aN,false⟩,⟨bb,61,ah bP b,bN,false⟩,⟨some g0,74,[az ab 0 a.length ac,az bb 0 b.length bc],2,true⟩,⟨ob,253,ah kG o,oN,true⟩],a.length-i)) ⟨⟨0,o,ob,oN,oc⟩,Nat.zero_le _,hI,h3,h4⟩ ?_ (hL:=eG.auto);rintro⟨⟨i,o,ob,oN,oc⟩,hi,hI,h3,h4⟩;(try dsimp only);replace hi:i<=a.length:=hi;replace hI:o=CG (a.take i):=hI;replace h3:o.length<=oc:=h3;replace h4:oc*12<=oN:=h4;have hol:o.length<=10000:=by rw[hI];simp only[List.length_append,Qg,Qh,List.length_take];omega
   refine A6 ?_;refine Cd ?_ ?_<;>intro hb4
   ·have hlt:i<a.length:=(by have:=of_decide_eq_true hb4;omega);obtain⟨x,hx⟩:∃x,a[i]? =some x:=⟨a[i],List.getElem?_eq_getElem hlt⟩;refine fD 0 rfl (bI.ne (by decide) (by omega)) (fun hbs=>?_);obtain⟨ga,hga⟩:=Option.isSome_iff_exists.1 hbs;replace hga:ab=some ga:=hga;subst hga;refine A6 ?_;refine ai 0 ((i)*20) F7 iC rfl rfl rfl rfl rfl (by omega) (by omega) (bI.ne (by decide) (by omega)) (by show 0+Int.toNat _*20=_;omega) ?_;refine aO (v:=kF x) 0 ((i)*20) _ rfl rfl rfl rfl iC (bI.sub hx 0 20 (by decide)) rfl (by decide) rfl ?_;refine Al 20 z61 (fun g1=>?_);refine Ss 4 ?_;refine A3 ?_;refine Dq [3000000] [0,3,1,2,4,6,7,8,5,9] ?_;refine yB 4 0 ?_;refine yB 4 0 ?_;refine Pc (vK x) ?_;refine(Bu [(0,_)]) (IP) ?_;refine Kr 38 (EvV (x.b,0,0)) ?_;refine Pc (xG x) ?_;refine Al 12 ZW (fun g2=>?_);refine Al 12 ZW (fun g3=>?_);refine Ss 5 ?_;refine(Bu [(0,_)]) (IP) ?_;refine Kr 41 (EvV (x.e,0,0)) ?_;refine Ss 6 ?_;refine A7 ?_;refine(Iz 10 xU uq) ?_;refine Ss 5 ?_;refine A1 ?_;refine(Iz 10 xU uq) ?_;refine Ss 6 ?_;refine A4 ?_;refine ut 5 0 ?_;refine Kr 49 (EvV (x.b,1,0)) ?_;refine ut 6 0 ?_;refine Kr 50 (EvV (x.e,-1,0)) ?_;refine(Bl 24 [(0,_),(1,_)]) (VV) (fun g4=>?_);refine(Qa (s:=12) (len:=o.length) (n2:=2) 3 7 (fun r=>[_,_,_,⟨some r.g,253,ah kG o++(kG (x.b,1,0)++kG (x.e,-1,0)),r.n,true⟩,_,_,_,_]) qdC qfJ) (xE.length o) h3 h4 (fun v hv=>List.all_eq_true.1 (show(kG (x.b,1,0)++kG (x.e,-1,0)).all (·.oneCell')=true from rfl) v hv) (fun r=>?_);refine A5 ?_;refine Ar (((i+1:Nat):Int)) ?_;refine A3 ?_;exact Nl ⟨⟨i+1,o++[(x.b,1,0),(x.e,-1,0)],some r.g,r.n,r.cap⟩,hlt,by show o++_=CG (a.take (i+1));rw[<-qbH hx,<-hI],by rw[List.length_append];exact r.h,r.hn⟩ (hμ:=(by show a.length-(i+1)<a.length-i;omega)) (ht:=⟨rfl,(aB rfl (by rw[List.length_append];rfl)),rfl,rfl,rfl,rfl,rfl,rfl,rfl,trivial⟩) (hL:=(au [some 0,some 1,some 2,some 3] ⟨pR,pR,pR,⟨_,rfl,aI (by rw[kC];rfl)⟩,trivial⟩ rfl rfl))
   ·have hge:i=a.length:=(by have:=of_decide_eq_false hb4;omega);subst hge;refine A7 ?_;refine(Aq ((0+1:Nat):Int)) (by exact(congrArg some (by rfl))) ?_;refine A3 ?_;exact Nl ⟨⟨0+1,o,ob,oN,oc⟩,(by show 0+1<=2;decide),by show o=CG a;rw[hI,List.take_length],h3,h4⟩ (hμ:=(by show 2-(0+1)<2-0;decide)) (hL:=eG.auto)
  ·exact absurd (by decide) (of_decide_eq_false hb2)
 ·refine A6 ?_;refine Cd ?_ ?_<;>intro hb2
  ·refine A7 ?_;refine ai 2 1 qiV qiP rfl rfl rfl rfl rfl (by omega) (by omega) (by simp) (by show 0+Int.toNat _*1=_;rfl) ?_;refine CB ?_;refine El (ι:={z:Nat×List KT×Option Nat×Nat×Nat // z.1<=b.length∧z.2.1=CG a++Ic (b.take z.1)∧z.2.1.length<=z.2.2.2.2∧z.2.2.2.2*12<=z.2.2.2.1}) (fun⟨⟨i,o,ob,oN,oc⟩,hi,hI,h3,h4⟩=>([(2,.func (.func kf) #[] #[]),(7,az ob 0 o.length oc),(23,az (some g0) 0 2 2),(24,.int .i64 2),(25,.int .i64 ((1:Nat):Int)),(8,.int .i64 ((1:Nat):Int)),(30,az bb 0 b.length bc),(31,bz (b.length)),(32,bz i)],[⟨ab,61,ah bP a,aN,false⟩,⟨bb,61,ah bP b,bN,false⟩,⟨some g0,74,[az ab 0 a.length ac,az bb 0 b.length bc],2,true⟩,⟨ob,253,ah kG o,oN,true⟩],b.length-i)) ⟨⟨0,o,ob,oN,oc⟩,Nat.zero_le _,by rw[hI];show CG a=CG a++[];simp,h3,h4⟩ ?_ (hL:=eG.auto);rintro⟨⟨i,o,ob,oN,oc⟩,hi,hI,h3,h4⟩;(try dsimp only);replace hi:i<=b.length:=hi;replace hI:o=CG a++Ic (b.take i):=hI;replace h3:o.length<=oc:=h3;replace h4:oc*12<=oN:=h4;have hol:o.length<=10000:=by rw[hI];simp only[List.length_append,Qg,Qh,List.length_take];omega
   refine A6 ?_;refine Cd ?_ ?_<;>intro hb4
   ·have hlt:i<b.length:=(by have:=of_decide_eq_true hb4;omega);obtain⟨x,hx⟩:∃x,b[i]? =some x:=⟨b[i],List.getElem?_eq_getElem hlt⟩;refine fD 1 rfl (bI.ne (by decide) (by omega)) (fun hbs=>?_);obtain⟨gb,hgb⟩:=Option.isSome_iff_exists.1 hbs;replace hgb:bb=some gb:=hgb;subst hgb;refine A6 ?_;refine ai 1 ((i)*20) F7 iC rfl rfl rfl rfl rfl (by omega) (by omega) (bI.ne (by decide) (by omega)) (by show 0+Int.toNat _*20=_;omega) ?_;refine aO (v:=kF x) 1 ((i)*20) _ rfl rfl rfl rfl iC (bI.sub hx 0 20 (by decide)) rfl (by decide) rfl ?_;refine Al 20 z61 (fun g1=>?_);refine Ss 4 ?_;refine A3 ?_;refine Dq [3000000] [0,3,1,2,4,6,7,8,5,9] ?_;refine yB 4 0 ?_;refine yB 4 0 ?_;refine Pc (vK x) ?_;refine(Bu [(0,_)]) (IP) ?_;refine Kr 38 (EvV (x.b,0,0)) ?_;refine Pc (xG x) ?_;refine Al 12 ZW (fun g2=>?_);refine Al 12 ZW (fun g3=>?_);refine Ss 5 ?_;refine(Bu [(0,_)]) (IP) ?_;refine Kr 41 (EvV (x.e,0,0)) ?_;refine Ss 6 ?_;refine A7 ?_;refine(Iz 11 xU uq) ?_;refine Ss 5 ?_;refine A1 ?_;refine(Iz 11 xU uq) ?_;refine Ss 6 ?_;refine A4 ?_;refine ut 5 0 ?_;refine Kr 49 (EvV (x.b,0,1)) ?_;refine ut 6 0 ?_;refine Kr 50 (EvV (x.e,0,-1)) ?_;refine(Bl 24 [(0,_),(1,_)]) (VV) (fun g4=>?_);refine(Qa (s:=12) (len:=o.length) (n2:=2) 3 7 (fun r=>[_,_,_,⟨some r.g,253,ah kG o++(kG (x.b,0,1)++kG (x.e,0,-1)),r.n,true⟩,_,_,_,_]) qdC qfJ) (xE.length o) h3 h4 (fun v hv=>List.all_eq_true.1 (show(kG (x.b,0,1)++kG (x.e,0,-1)).all (·.oneCell')=true from rfl) v hv) (fun r=>?_);refine A5 ?_;refine Ar (((i+1:Nat):Int)) ?_;refine A3 ?_;exact Nl ⟨⟨i+1,o++[(x.b,0,1),(x.e,0,-1)],some r.g,r.n,r.cap⟩,hlt,by show o++_=CG a++Ic (b.take (i+1));rw[<-qbI hx,<-List.append_assoc,<-hI],by rw[List.length_append];exact r.h,r.hn⟩ (hμ:=(by show b.length-(i+1)<b.length-i;omega)) (ht:=⟨rfl,(aB rfl (by rw[List.length_append];rfl)),rfl,rfl,rfl,rfl,rfl,rfl,rfl,trivial⟩) (hL:=(au [some 0,some 1,some 2,some 3] ⟨pR,pR,pR,⟨_,rfl,aI (by rw[kC];rfl)⟩,trivial⟩ rfl rfl))
   ·have hge:i=b.length:=(by have:=of_decide_eq_false hb4;omega);subst hge;refine A7 ?_;refine(Aq ((1+1:Nat):Int)) (by exact(congrArg some (by rfl))) ?_;refine A3 ?_;exact Nl ⟨⟨1+1,o,ob,oN,oc⟩,(by show 1+1<=2;decide),by show o=CG a++Ic b;rw[hI,List.take_length],h3,h4⟩ (hμ:=(by show 2-(1+1)<2-1;decide)) (hL:=eG.auto)
  ·exact absurd (by decide) (of_decide_eq_false hb2)
 ·refine A6 ?_;refine Cd ?_ ?_<;>intro hb2
  ·exact absurd (of_decide_eq_true hb2) (by decide)
  ·refine A6 ?_;refine mV ?_;refine A1 ?_;have hp0:o=CG a++Ic b:=hI;have hol:o.length<=10000:=by rw[hp0,List.length_append,Qg,Qh];omega
   have hos:∀e∈o,S e.1.1∧gY e.1.1<=50000:=fun e he=>by rw[hp0] at he;exact qjw (S:=fun x=>S x∧gY x<=50000) hha hhb he
   refine Gm 1 [3] [] (fun z=>[_,_,_,⟨ob,253,ah kG z.1,oN,true⟩]) (qbQ T o ob oN oc h3 h4 hos) (fun z=>?_);obtain⟨l2,hp2,hs2⟩:=z;have hl2:l2.length=o.length:=hp2.length_eq;have hev:∀e∈l2,(S e.1.1∧gY e.1.1<=50000)∧ -1<=e.2.1∧e.2.1<=1∧ -1<=e.2.2∧e.2.2<=1:=fun e he=>by
    have he':=hp2.subset he;refine⟨hos e he',?_⟩;rw[hp0] at he';obtain⟨_,h1,h2⟩:=qbJ he';exact⟨h1.1,h1.2,h2.1,h2.2⟩
   rw[hp0] at hp2;refine A9 ?_;refine Al 2 qkD (fun g1=>?_);refine A4 ?_;refine Al 10 qgD (fun g2=>?_);refine II ?_;refine El (ι:={z:Nat×Int×Int×Bool×qK×List Iv×Option Nat×Nat×Nat // z.1<=l2.length∧(-(z.1:Int)<=z.2.1∧z.2.1<=z.1)∧(-(z.1:Int)<=z.2.2.1∧z.2.2.1<=z.1)∧kY keep a b=z.2.2.2.2.2.1++Y4 (aV ρ) keep l2 z.1 z.2.1 z.2.2.1 z.2.2.2.1 z.2.2.2.2.1∧z.2.2.2.2.2.1.length<=z.1∧z.2.2.2.2.2.1.length<=z.2.2.2.2.2.2.2.2∧z.2.2.2.2.2.2.2.2*20<=z.2.2.2.2.2.2.2.1}) (fun⟨⟨i,m,n,inn,fb,q,qb,qN,qc⟩,hi,hm,hn,hI2,hq,h5,h6⟩=>([(2,.func (.func kf) #[] #[]),(7,az ob 0 l2.length oc),(14,az qb 0 q.length qc),(15,dV g1),(16,dV g2),(17,.bool inn),(57,az ob 0 l2.length oc),(58,bz (l2.length)),(59,bz i)],[⟨ab,61,ah bP a,aN,false⟩,⟨bb,61,ah bP b,bN,false⟩,⟨some g0,74,[az ab 0 a.length ac,az bb 0 b.length bc],2,true⟩,⟨ob,253,ah kG l2,oN,true⟩,⟨some g1,251,[.int .i64 m,.int .i64 n],2,true⟩,⟨some g2,209,xh fb,10,true⟩,⟨qb,61,ah bP q,qN,true⟩],l2.length-i)) ⟨⟨0,0,0,false,(rl 0,false),[],none,0,0⟩,Nat.zero_le _,by decide,by decide,(qbM T h0 ha hb oka okb hp2 hs2 _).symm,Nat.le_refl _,Nat.le_refl _,by simp⟩ ?_ (ht:=⟨rfl,(aB rfl (by rw[hl2])),rfl,rfl,rfl,rfl,(aB rfl (by rw[hl2])),(aB rfl (by rw[hl2])),rfl,trivial⟩) (hL:=(au [some 0,some 1,some 2,some 3,some 4,some 5,none] ⟨pR,pR,pR,pR,pR,⟨_,rfl,aI (by rw[qhQ];rfl)⟩,⟨rfl,rfl,rfl⟩,trivial⟩ rfl rfl));rintro⟨⟨i,m,n,inn,fb,q,qb,qN,qc⟩,hi,hm,hn,hI2,hq,h5,h6⟩;(try dsimp only);replace hi:i<=l2.length:=hi;replace hm: -(i:Int)<=m∧m<=i:=hm;replace hn: -(i:Int)<=n∧n<=i:=hn;replace hI2:kY keep a b=q++Y4 (aV ρ) keep l2 i m n inn fb:=hI2;replace hq:q.length<=i:=hq;replace h5:q.length<=qc:=h5;replace h6:qc*20<=qN:=h6;refine A6 ?_;refine Cd ?_ ?_<;>intro hb4
   ·have hlt:i<l2.length:=(by have:=of_decide_eq_true hb4;omega);obtain⟨x,hx⟩:∃x,l2[i]? =some x:=⟨l2[i],List.getElem?_eq_getElem hlt⟩;obtain⟨hex,hx1,hx2,hx3,hx4⟩:=hev x (List.mem_of_getElem? hx);refine fD 3 rfl (xE.ne (by decide) (by omega)) (fun hbs=>?_);obtain⟨go,hgo⟩:=Option.isSome_iff_exists.1 hbs;replace hgo:ob=some go:=hgo;subst hgo;refine A7 ?_;refine ai 3 ((i)*12) qdC ZV rfl rfl rfl rfl rfl (by omega) (by omega) (xE.ne (by decide) (by omega)) (by show 0+Int.toNat _*12=_;omega) ?_;refine aO (v:=EvV x) 3 ((i)*12) _ rfl rfl rfl rfl ZV (xE.sub hx 0 12 (by decide)) rfl (by decide) rfl ?_;refine Al 12 ZW (fun g3=>?_);refine A1 ?_;refine Ss 7 ?_;refine A3 ?_;let sX:List (Nat×Value)->List (Nat×Value):=fun l=>(2,.func (.func kf) #[] #[])::(7,az (some go) 0 l2.length oc)::(14,az qb 0 q.length qc)::(15,dV g1)::(16,dV g2)::(17,.bool inn)::(57,az (some go) 0 l2.length oc)::(58,bz (l2.length))::(59,bz i)::(18,bz i)::(19,dV g3)::l;let sY:List aG->List aG:=fun l=>⟨ab,61,ah bP a,aN,false⟩::⟨bb,61,ah bP b,bN,false⟩::⟨some g0,74,[az ab 0 a.length ac,az bb 0 b.length bc],2,true⟩::⟨some go,253,ah kG l2,oN,true⟩::l;refine Bv (nt:=127) (Z:=Unit) (fun _=>sX []) (fun _=>sY [⟨some g1,251,[.int .i64 (m+x.2.1),.int .i64 (n+x.2.2)],2,true⟩,⟨some g2,209,xh fb,10,true⟩,⟨qb,61,ah bP q,qN,true⟩,⟨some g3,253,kG x,12,true⟩]) 16 [0,1,2,3,4,5,6,7,8,9,10,11,12,13,14,15] mixed (by kernel_rfl) (fun hd0=>?_) ?_
    ·refine bK (nt:=127) (Z:=Unit) (fun _=>sX [(75,.int .i64 (n+x.2.2)),(77,.pointer (some ⟨g1,1,none⟩))]) (fun _=>sY [⟨some g1,251,[.int .i64 (m+x.2.1),.int .i64 (n)],2,true⟩,⟨some g2,209,xh fb,10,true⟩,⟨qb,61,ah bP q,qN,true⟩,⟨some g3,253,kG x,12,true⟩]) 1 [15] (fun z=>?_) (fun hd1=>?_)
     ·(try dsimp only);refine FN 15 ?_
      ·refine Ss 4 ?_;refine A1 ?_;exact Nw hd0 () [0,1,2,3,4,5,6,7]
     refine bK (nt:=127) (Z:=Unit) (fun _=>sX [(69,.int .i64 (m+x.2.1)),(75,.int .i64 (n+x.2.2)),(76,dV g1)]) (fun _=>sY [⟨some g1,251,[.int .i64 m,.int .i64 n],2,true⟩,⟨some g2,209,xh fb,10,true⟩,⟨qb,61,ah bP q,qN,true⟩,⟨some g3,253,kG x,12,true⟩]) 3 [13,14,15] (fun z=>?_) (fun hd2=>?_)
     ·(try dsimp only);refine FN 13 ?_
      ·refine Ss 4 ?_;refine A1 ?_;refine Nt 14 ?_;refine(Iz 1 xU uq) ?_;refine A1 ?_;exact Nw hd1 () [0,1,2,3,4,5,6,7]
     refine bK (nt:=127) (Z:=Unit) (fun _=>sX [(71,.int .i64 n),(73,.pointer (some ⟨g3,11,none⟩))]) (fun _=>sY [⟨some g1,251,[.int .i64 (m+x.2.1),.int .i64 (n)],2,true⟩,⟨some g2,209,xh fb,10,true⟩,⟨qb,61,ah bP q,qN,true⟩,⟨some g3,253,kG x,12,true⟩]) 4 [10,11,14,15] (fun z=>?_) (fun hd3=>?_)
     ·(try dsimp only);refine FN 10 ?_
      ·refine A2 ?_;refine Nt 11 ?_;refine(Aq (n+x.2.2)) (by exact(congrArg some (wi (by omega) (by omega) rfl))) ?_;refine A1 ?_;refine Nt 14 ?_;refine(Iz 1 xU uq) ?_;refine A1 ?_;exact Nw hd1 () [0,1,2,3,4,5,6,7]
     refine bK (nt:=127) (Z:=Unit) (fun _=>sX [(69,.int .i64 (m+x.2.1)),(71,.int .i64 n),(73,.pointer (some ⟨g3,11,none⟩)),(76,dV g1)]) (fun _=>sY [⟨some g1,251,[.int .i64 m,.int .i64 n],2,true⟩,⟨some g2,209,xh fb,10,true⟩,⟨qb,61,ah bP q,qN,true⟩,⟨some g3,253,kG x,12,true⟩]) 5 [10,11,13,14,15] (fun z=>?_) (fun hd4=>?_)
     ·(try dsimp only);refine cZ [10,13] (by kernel_rfl) rfl ⟨⟨_,rfl,?_⟩,⟨_,rfl,?_⟩,trivial⟩
      ·refine A2 ?_;refine Nt 11 ?_;refine(Aq (n+x.2.2)) (by exact(congrArg some (wi (by omega) (by omega) rfl))) ?_;refine A1 ?_;exact Nw hd2 () [0,1,2,3,4,5,6,7]
      ·refine Ss 4 ?_;refine A1 ?_;exact Nw hd3 () [0,1,2,3,4,5,6,7]
     refine bK (nt:=127) (Z:=Unit) (fun _=>sX [(64,dV g1),(68,.int .i64 x.2.1),(75,.int .i64 (n+x.2.2))]) (fun _=>sY [⟨some g1,251,[.int .i64 m,.int .i64 n],2,true⟩,⟨some g2,209,xh fb,10,true⟩,⟨qb,61,ah bP q,qN,true⟩,⟨some g3,253,kG x,12,true⟩]) 6 [1,5,12,13,14,15] (fun z=>?_) (fun hd5=>?_)
     ·(try dsimp only);refine FN 1 ?_
      ·refine A2 ?_;refine Nt 5 ?_;refine(Aq (m+x.2.1)) (by exact(congrArg some (wi (by omega) (by omega) rfl))) ?_;refine A1 ?_;refine Nt 12 ?_;refine(Iz 0 xU uq) ?_;refine A1 ?_;exact Nw hd2 () [0,1,2,3,4,5,6,7]
     refine bK (nt:=127) (Z:=Unit) (fun _=>sX [(65,.int .i64 m),(67,.pointer (some ⟨g3,10,none⟩)),(75,.int .i64 (n+x.2.2))]) (fun _=>sY [⟨some g1,251,[.int .i64 m,.int .i64 n],2,true⟩,⟨some g2,209,xh fb,10,true⟩,⟨qb,61,ah bP q,qN,true⟩,⟨some g3,253,kG x,12,true⟩]) 6 [4,5,12,13,14,15] (fun z=>?_) (fun hd6=>?_)
     ·(try dsimp only);refine FN 4 ?_
      ·refine A2 ?_;refine Nt 5 ?_;refine(Aq (m+x.2.1)) (by exact(congrArg some (wi (by omega) (by omega) rfl))) ?_;refine A1 ?_;refine Nt 12 ?_;refine(Iz 0 xU uq) ?_;refine A1 ?_;exact Nw hd2 () [0,1,2,3,4,5,6,7]
     refine bK (nt:=127) (Z:=Unit) (fun _=>sX [(69,.int .i64 (m+x.2.1)),(70,.pointer (some ⟨g1,1,none⟩)),(74,.int .i64 x.2.2)]) (fun _=>sY [⟨some g1,251,[.int .i64 m,.int .i64 n],2,true⟩,⟨some g2,209,xh fb,10,true⟩,⟨qb,61,ah bP q,qN,true⟩,⟨some g3,253,kG x,12,true⟩]) 6 [7,11,12,13,14,15] (fun z=>?_) (fun hd7=>?_)
     ·(try dsimp only);refine FN 7 ?_
      ·refine A2 ?_;refine Nt 11 ?_;refine(Aq (n+x.2.2)) (by exact(congrArg some (wi (by omega) (by omega) rfl))) ?_;refine A1 ?_;refine Nt 12 ?_;refine(Iz 0 xU uq) ?_;refine A1 ?_;exact Nw hd2 () [0,1,2,3,4,5,6,7]
     refine bK (nt:=127) (Z:=Unit) (fun _=>sX [(64,dV g1),(67,.pointer (some ⟨g3,10,none⟩)),(75,.int .i64 (n+x.2.2))]) (fun _=>sY [⟨some g1,251,[.int .i64 m,.int .i64 n],2,true⟩,⟨some g2,209,xh fb,10,true⟩,⟨qb,61,ah bP q,qN,true⟩,⟨some g3,253,kG x,12,true⟩]) 7 [1,4,5,12,13,14,15] (fun z=>?_) (fun hd8=>?_)
     ·(try dsimp only);refine cZ [1,4] (by kernel_rfl) rfl ⟨⟨_,rfl,?_⟩,⟨_,rfl,?_⟩,trivial⟩
      ·refine A2 ?_;exact Nw hd6 () [0,1,2,3,4,5,6,7]
      ·refine A2 ?_;exact Nw hd5 () [0,1,2,3,4,5,6,7]
     refine bK (nt:=127) (Z:=Unit) (fun _=>sX [(69,.int .i64 (m+x.2.1)),(70,.pointer (some ⟨g1,1,none⟩)),(73,.pointer (some ⟨g3,11,none⟩))]) (fun _=>sY [⟨some g1,251,[.int .i64 m,.int .i64 n],2,true⟩,⟨some g2,209,xh fb,10,true⟩,⟨qb,61,ah bP q,qN,true⟩,⟨some g3,253,kG x,12,true⟩]) 7 [7,10,11,12,13,14,15] (fun z=>?_) (fun hd9=>?_)
     ·(try dsimp only);refine cZ [7,10] (by kernel_rfl) rfl ⟨⟨_,rfl,?_⟩,⟨_,rfl,?_⟩,trivial⟩
      ·refine A2 ?_;refine Nt 12 ?_;refine(Iz 0 xU uq) ?_;refine A1 ?_;exact Nw hd4 () [0,1,2,3,4,5,6,7]
      ·refine A2 ?_;exact Nw hd7 () [0,1,2,3,4,5,6,7]
     refine bK (nt:=127) (Z:=Unit) (fun _=>sX [(64,dV g1),(68,.int .i64 x.2.1),(70,.pointer (some ⟨g1,1,none⟩)),(74,.int .i64 x.2.2)]) (fun _=>sY [⟨some g1,251,[.int .i64 m,.int .i64 n],2,true⟩,⟨some g2,209,xh fb,10,true⟩,⟨qb,61,ah bP q,qN,true⟩,⟨some g3,253,kG x,12,true⟩]) 8 [1,5,7,11,12,13,14,15] (fun z=>?_) (fun hd10=>?_)
     ·(try dsimp only);refine cZ [1,7] (by kernel_rfl) rfl ⟨⟨_,rfl,?_⟩,⟨_,rfl,?_⟩,trivial⟩
      ·refine A2 ?_;refine Nt 5 ?_;refine(Aq (m+x.2.1)) (by exact(congrArg some (wi (by omega) (by omega) rfl))) ?_;refine A1 ?_;exact Nw hd7 () [0,1,2,3,4,5,6,7]
      ·refine A2 ?_;refine Nt 11 ?_;refine(Aq (n+x.2.2)) (by exact(congrArg some (wi (by omega) (by omega) rfl))) ?_;refine A1 ?_;exact Nw hd5 () [0,1,2,3,4,5,6,7]
     refine bK (nt:=127) (Z:=Unit) (fun _=>sX [(64,dV g1),(68,.int .i64 x.2.1),(71,.int .i64 n),(73,.pointer (some ⟨g3,11,none⟩))]) (fun _=>sY [⟨some g1,251,[.int .i64 m,.int .i64 n],2,true⟩,⟨some g2,209,xh fb,10,true⟩,⟨qb,61,ah bP q,qN,true⟩,⟨some g3,253,kG x,12,true⟩]) 8 [1,5,10,11,12,13,14,15] (fun z=>?_) (fun hd11=>?_)
     ·(try dsimp only);refine cZ [1,10] (by kernel_rfl) rfl ⟨⟨_,rfl,?_⟩,⟨_,rfl,?_⟩,trivial⟩
      ·refine A2 ?_;refine Nt 5 ?_;refine(Aq (m+x.2.1)) (by exact(congrArg some (wi (by omega) (by omega) rfl))) ?_;refine A1 ?_;refine Nt 12 ?_;refine(Iz 0 xU uq) ?_;refine A1 ?_;exact Nw hd4 () [0,1,2,3,4,5,6,7]
      ·refine A2 ?_;refine Nt 11 ?_;refine(Aq (n+x.2.2)) (by exact(congrArg some (wi (by omega) (by omega) rfl))) ?_;refine A1 ?_;exact Nw hd5 () [0,1,2,3,4,5,6,7]
     refine bK (nt:=127) (Z:=Unit) (fun _=>sX [(65,.int .i64 m),(67,.pointer (some ⟨g3,10,none⟩)),(70,.pointer (some ⟨g1,1,none⟩)),(74,.int .i64 x.2.2)]) (fun _=>sY [⟨some g1,251,[.int .i64 m,.int .i64 n],2,true⟩,⟨some g2,209,xh fb,10,true⟩,⟨qb,61,ah bP q,qN,true⟩,⟨some g3,253,kG x,12,true⟩]) 8 [4,5,7,11,12,13,14,15] (fun z=>?_) (fun hd12=>?_)
     ·(try dsimp only);refine cZ [4,7] (by kernel_rfl) rfl ⟨⟨_,rfl,?_⟩,⟨_,rfl,?_⟩,trivial⟩
      ·refine A2 ?_;refine Nt 5 ?_;refine(Aq (m+x.2.1)) (by exact(congrArg some (wi (by omega) (by omega) rfl))) ?_;refine A1 ?_;exact Nw hd7 () [0,1,2,3,4,5,6,7]
      ·refine A2 ?_;refine Nt 11 ?_;refine(Aq (n+x.2.2)) (by exact(congrArg some (wi (by omega) (by omega) rfl))) ?_;refine A1 ?_;exact Nw hd6 () [0,1,2,3,4,5,6,7]
     refine bK (nt:=127) (Z:=Unit) (fun _=>sX [(65,.int .i64 m),(67,.pointer (some ⟨g3,10,none⟩)),(71,.int .i64 n),(73,.pointer (some ⟨g3,11,none⟩))]) (fun _=>sY [⟨some g1,251,[.int .i64 m,.int .i64 n],2,true⟩,⟨some g2,209,xh fb,10,true⟩,⟨qb,61,ah bP q,qN,true⟩,⟨some g3,253,kG x,12,true⟩]) 8 [4,5,10,11,12,13,14,15] (fun z=>?_) (fun hd13=>?_)
     ·(try dsimp only);refine cZ [4,10] (by kernel_rfl) rfl ⟨⟨_,rfl,?_⟩,⟨_,rfl,?_⟩,trivial⟩
      ·refine A2 ?_;refine Nt 5 ?_;refine(Aq (m+x.2.1)) (by exact(congrArg some (wi (by omega) (by omega) rfl))) ?_;refine A1 ?_;refine Nt 12 ?_;refine(Iz 0 xU uq) ?_;refine A1 ?_;exact Nw hd4 () [0,1,2,3,4,5,6,7]
      ·refine A2 ?_;refine Nt 11 ?_;refine(Aq (n+x.2.2)) (by exact(congrArg some (wi (by omega) (by omega) rfl))) ?_;refine A1 ?_;exact Nw hd6 () [0,1,2,3,4,5,6,7]
     refine bK (nt:=127) (Z:=Unit) (fun _=>sX [(64,dV g1),(67,.pointer (some ⟨g3,10,none⟩)),(70,.pointer (some ⟨g1,1,none⟩)),(74,.int .i64 x.2.2)]) (fun _=>sY [⟨some g1,251,[.int .i64 m,.int .i64 n],2,true⟩,⟨some g2,209,xh fb,10,true⟩,⟨qb,61,ah bP q,qN,true⟩,⟨some g3,253,kG x,12,true⟩]) 9 [1,4,5,7,11,12,13,14,15] (fun z=>?_) (fun hd14=>?_)
     ·(try dsimp only);refine cZ [1,4,7] (by kernel_rfl) rfl ⟨⟨_,rfl,?_⟩,⟨_,rfl,?_⟩,⟨_,rfl,?_⟩,trivial⟩
      ·refine A2 ?_;exact Nw hd12 () [0,1,2,3,4,5,6,7]
      ·refine A2 ?_;exact Nw hd10 () [0,1,2,3,4,5,6,7]
      ·refine A2 ?_;refine Nt 11 ?_;refine(Aq (n+x.2.2)) (by exact(congrArg some (wi (by omega) (by omega) rfl))) ?_;refine A1 ?_;exact Nw hd8 () [0,1,2,3,4,5,6,7]
     refine bK (nt:=127) (Z:=Unit) (fun _=>sX [(64,dV g1),(67,.pointer (some ⟨g3,10,none⟩)),(71,.int .i64 n),(73,.pointer (some ⟨g3,11,none⟩))]) (fun _=>sY [⟨some g1,251,[.int .i64 m,.int .i64 n],2,true⟩,⟨some g2,209,xh fb,10,true⟩,⟨qb,61,ah bP q,qN,true⟩,⟨some g3,253,kG x,12,true⟩]) 9 [1,4,5,10,11,12,13,14,15] (fun z=>?_) (fun hd15=>?_)
     ·(try dsimp only);refine cZ [1,4,10] (by kernel_rfl) rfl ⟨⟨_,rfl,?_⟩,⟨_,rfl,?_⟩,⟨_,rfl,?_⟩,trivial⟩
      ·refine A2 ?_;exact Nw hd13 () [0,1,2,3,4,5,6,7]
      ·refine A2 ?_;exact Nw hd11 () [0,1,2,3,4,5,6,7]
      ·refine A2 ?_;refine Nt 11 ?_;refine(Aq (n+x.2.2)) (by exact(congrArg some (wi (by omega) (by omega) rfl))) ?_;refine A1 ?_;exact Nw hd8 () [0,1,2,3,4,5,6,7]
     refine bK (nt:=127) (Z:=Unit) (fun _=>sX [(64,dV g1),(68,.int .i64 x.2.1),(70,.pointer (some ⟨g1,1,none⟩)),(73,.pointer (some ⟨g3,11,none⟩))]) (fun _=>sY [⟨some g1,251,[.int .i64 m,.int .i64 n],2,true⟩,⟨some g2,209,xh fb,10,true⟩,⟨qb,61,ah bP q,qN,true⟩,⟨some g3,253,kG x,12,true⟩]) 9 [1,5,7,10,11,12,13,14,15] (fun z=>?_) (fun hd16=>?_)
     ·(try dsimp only);refine cZ [1,7,10] (by kernel_rfl) rfl ⟨⟨_,rfl,?_⟩,⟨_,rfl,?_⟩,⟨_,rfl,?_⟩,trivial⟩
      ·refine A2 ?_;refine Nt 5 ?_;refine(Aq (m+x.2.1)) (by exact(congrArg some (wi (by omega) (by omega) rfl))) ?_;refine A1 ?_;exact Nw hd9 () [0,1,2,3,4,5,6,7]
      ·refine A2 ?_;exact Nw hd11 () [0,1,2,3,4,5,6,7]
      ·refine A2 ?_;exact Nw hd10 () [0,1,2,3,4,5,6,7]
     refine bK (nt:=127) (Z:=Unit) (fun _=>sX [(65,.int .i64 m),(67,.pointer (some ⟨g3,10,none⟩)),(70,.pointer (some ⟨g1,1,none⟩)),(73,.pointer (some ⟨g3,11,none⟩))]) (fun _=>sY [⟨some g1,251,[.int .i64 m,.int .i64 n],2,true⟩,⟨some g2,209,xh fb,10,true⟩,⟨qb,61,ah bP q,qN,true⟩,⟨some g3,253,kG x,12,true⟩]) 9 [4,5,7,10,11,12,13,14,15] (fun z=>?_) (fun hd17=>?_)
     ·(try dsimp only);refine cZ [4,7,10] (by kernel_rfl) rfl ⟨⟨_,rfl,?_⟩,⟨_,rfl,?_⟩,⟨_,rfl,?_⟩,trivial⟩
      ·refine A2 ?_;refine Nt 5 ?_;refine(Aq (m+x.2.1)) (by exact(congrArg some (wi (by omega) (by omega) rfl))) ?_;refine A1 ?_;exact Nw hd9 () [0,1,2,3,4,5,6,7]
      ·refine A2 ?_;exact Nw hd13 () [0,1,2,3,4,5,6,7]
      ·refine A2 ?_;exact Nw hd12 () [0,1,2,3,4,5,6,7]
     refine Nt 0 ?_;refine(Iz 0 xU uq) ?_;refine A1 ?_;refine Nt 2 ?_;refine Fg 0 10 ?_;refine A1 ?_;refine Nt 3 ?_;refine(Iz 10 xU uq) ?_;refine A1 ?_;refine Nt 6 ?_;refine(Iz 1 xU uq) ?_;refine A1 ?_;refine Nt 8 ?_;refine Fg 0 10 ?_;refine A1 ?_;refine Nt 9 ?_;refine(Iz 11 xU uq) ?_;refine A1 ?_;refine cZ [1,4,7,10] (by kernel_rfl) rfl ⟨⟨_,rfl,?_⟩,⟨_,rfl,?_⟩,⟨_,rfl,?_⟩,⟨_,rfl,?_⟩,trivial⟩
     ·refine A2 ?_;exact Nw hd17 () [0,1,2,3,4,5,6,7]
     ·refine A2 ?_;exact Nw hd16 () [0,1,2,3,4,5,6,7]
     ·refine A2 ?_;exact Nw hd15 () [0,1,2,3,4,5,6,7]
     ·refine A2 ?_;exact Nw hd14 () [0,1,2,3,4,5,6,7]
    intro _;show At _ ⟨127,[(2,.func (.func kf) #[] #[]),(7,az (some go) 0 l2.length oc),(14,az qb 0 q.length qc),(15,dV g1),(16,dV g2),(17,.bool inn),(57,az (some go) 0 l2.length oc),(58,bz (l2.length)),(59,bz i),(18,bz i),(19,dV g3)],[⟨ab,61,ah bP a,aN,false⟩,⟨bb,61,ah bP b,bN,false⟩,⟨some g0,74,[az ab 0 a.length ac,az bb 0 b.length bc],2,true⟩,⟨some go,253,ah kG l2,oN,true⟩,⟨some g1,251,[.int .i64 (m+x.2.1),.int .i64 (n+x.2.2)],2,true⟩,⟨some g2,209,xh fb,10,true⟩,⟨qb,61,ah bP q,qN,true⟩,⟨some g3,253,kG x,12,true⟩]⟩ _;refine A3 ?_;refine Di [] ?_;refine A1 ?_;refine Ar (((i+1:Nat):Int)) ?_;refine A4 ?_;refine Rs 83 ?_ ?_<;>intro hb5
    ·have hjt:i+1<l2.length:=(by have:=of_decide_eq_true hb5;omega);obtain⟨y,hy⟩:∃y,l2[i+1]? =some y:=⟨l2[i+1],List.getElem?_eq_getElem hjt⟩;have hey:=(hev y (List.mem_of_getElem? hy)).1;refine A1 ?_;refine LH 7 0 ?_;refine A2 ?_;refine Ar (((i+1:Nat):Int)) ?_;refine ai 3 ((i+1)*12) qdC ZV rfl rfl rfl rfl rfl (by omega) (by omega) (xE.ne (by decide) (by omega)) (by show 0+Int.toNat _*12=_;omega) ?_;refine Fg ((i+1)*12) 0 ?_;refine aO (v:=BdV y.1) 3 ((i+1)*12+0) _ rfl rfl rfl rfl qiQ (xE.sub hy 0 10 (by decide)) rfl (by decide) rfl ?_;refine Pc (rf x.1 y.1 hex.2 hey.2) ?_;refine A4 ?_;refine Cd ?_ ?_<;>intro hb6
     ·have hc0:xg x.1 y.1=0:=eq_of_beq hb6;refine A5 ?_;refine Ar (((i+1:Nat):Int)) ?_;refine A3 ?_;exact Nl ⟨⟨i+1,m+x.2.1,n+x.2.2,inn,fb,q,qb,qN,qc⟩,hlt,by show-((i+1:Nat):Int)<=m+x.2.1∧m+x.2.1<=((i+1:Nat):Int);omega,by show-((i+1:Nat):Int)<=n+x.2.2∧n+x.2.2<=((i+1:Nat):Int);omega,by rw[<-qbO T hx hy hex.1 hey.1 hc0];exact hI2,Nat.le_succ_of_le hq,h5,h6⟩ (hμ:=(by show l2.length-(i+1)<l2.length-i;omega)) (hL:=eG.auto)
     ·have hc0:xg x.1 y.1≠0:=ne_of_beq_false hb6;have hfar:=qhP T hy hex.1 hey.1 hc0;refine A5 ?_;refine(Iz 0 xU uq) ?_;refine A2 ?_;refine(Iz 1 xU uq) ?_;refine A2 ?_;refine gV [_,_] rfl rfl rfl rfl (hkp _ _) ?_;refine A9 ?_;refine Rs 105 ?_ ?_<;>intro hb7
      ·have hnow:keep (decide (0<m+x.2.1)) (decide (0<n+x.2.2))=true:=hb7;refine A6 ?_;refine Cd ?_ ?_<;>intro hb8
       ·have hin:inn=false:=by have e:=hb8;simpa using e
        refine A2 ?_;refine LH 7 0 ?_;refine Ss 5 ?_;refine lm ?_;refine Ar (((i+1:Nat):Int)) ?_;refine A3 ?_;exact Nl ⟨⟨i+1,m+x.2.1,n+x.2.2,true,x.1,q,qb,qN,qc⟩,hlt,by show-((i+1:Nat):Int)<=m+x.2.1∧m+x.2.1<=((i+1:Nat):Int);omega,by show-((i+1:Nat):Int)<=n+x.2.2∧n+x.2.2<=((i+1:Nat):Int);omega,by rw[hI2,AQ hx hfar hnow];rw[hin];rfl,Nat.le_succ_of_le hq,h5,h6⟩ (hμ:=(by show l2.length-(i+1)<l2.length-i;omega)) (ht:=⟨rfl,rfl,rfl,rfl,rfl,(aB rfl (congrArg Value.bool hnow)),rfl,rfl,rfl,trivial⟩) (hL:=eG.auto)
       ·have hin:inn=true:=by have e:=hb8;simpa using e
        refine A5 ?_;refine Rs 114 ?_ ?_<;>intro hb9
        ·exact absurd hb9 (by rw[hnow];decide)
        ·refine II ?_;refine Ar (((i+1:Nat):Int)) ?_;refine A3 ?_;exact Nl ⟨⟨i+1,m+x.2.1,n+x.2.2,true,fb,q,qb,qN,qc⟩,hlt,by show-((i+1:Nat):Int)<=m+x.2.1∧m+x.2.1<=((i+1:Nat):Int);omega,by show-((i+1:Nat):Int)<=n+x.2.2∧n+x.2.2<=((i+1:Nat):Int);omega,by rw[hI2,AQ hx hfar hnow];rw[hin];rfl,Nat.le_succ_of_le hq,h5,h6⟩ (hμ:=(by show l2.length-(i+1)<l2.length-i;omega)) (ht:=⟨rfl,rfl,rfl,rfl,rfl,(aB rfl (congrArg Value.bool hnow)),rfl,rfl,rfl,trivial⟩) (hL:=eG.auto)
      ·have hnow:keep (decide (0<m+x.2.1)) (decide (0<n+x.2.2))=false:=hb7;refine lX ?_;refine Rs 114 ?_ ?_<;>intro hb8
       ·refine A5 ?_;refine Cd ?_ ?_<;>intro hb9
        ·have hin:inn=true:=hb9;refine A2 ?_;refine LH 5 0 ?_;refine A1 ?_;refine LH 7 0 ?_;refine Pc (yw fb x.1) ?_;refine(Bl 20 [(0,_)]) (lH) (fun g4=>?_);refine(Qa (s:=20) (len:=q.length) (n2:=1) 6 8 (fun r=>[_,_,_,_,_,_,⟨some r.g,61,ah bP q++bP (Ib fb x.1),r.n,true⟩,_,_]) F7 L6) (bI.length q) h5 h6 (bI.one (Ib fb x.1)) (fun r=>?_);refine oO ?_;refine Ar (((i+1:Nat):Int)) ?_;refine A3 ?_;exact Nl ⟨⟨i+1,m+x.2.1,n+x.2.2,false,fb,q++[Ib fb x.1],some r.g,r.n,r.cap⟩,hlt,by show-((i+1:Nat):Int)<=m+x.2.1∧m+x.2.1<=((i+1:Nat):Int);omega,by show-((i+1:Nat):Int)<=n+x.2.2∧n+x.2.2<=((i+1:Nat):Int);omega,by rw[hI2,AQ hx hfar hnow];rw[hin,List.append_assoc];rfl,by rw[List.length_append];exact Nat.succ_le_succ hq,by rw[List.length_append];exact r.h,r.hn⟩ (hμ:=(by show l2.length-(i+1)<l2.length-i;omega)) (ht:=⟨rfl,rfl,(aB rfl (by rw[List.length_append];rfl)),rfl,rfl,(aB rfl (congrArg Value.bool hnow)),rfl,rfl,rfl,trivial⟩) (hL:=(au [some 0,some 1,some 2,some 3,some 4,some 5,some 6] ⟨pR,pR,pR,pR,pR,pR,⟨_,rfl,aI (by rw[bH])⟩,trivial⟩ rfl rfl))
        ·have hin:inn=false:=hb9;refine lm ?_;refine Ar (((i+1:Nat):Int)) ?_;refine A3 ?_;exact Nl ⟨⟨i+1,m+x.2.1,n+x.2.2,false,fb,q,qb,qN,qc⟩,hlt,by show-((i+1:Nat):Int)<=m+x.2.1∧m+x.2.1<=((i+1:Nat):Int);omega,by show-((i+1:Nat):Int)<=n+x.2.2∧n+x.2.2<=((i+1:Nat):Int);omega,by rw[hI2,AQ hx hfar hnow];rw[hin];rfl,Nat.le_succ_of_le hq,h5,h6⟩ (hμ:=(by show l2.length-(i+1)<l2.length-i;omega)) (ht:=⟨rfl,rfl,rfl,rfl,rfl,(aB rfl (congrArg Value.bool hnow)),rfl,rfl,rfl,trivial⟩) (hL:=eG.auto)
       ·exact absurd hb8 (by rw[hnow];decide)
    ·have hfar:Far ρ l2 i x:=qe6 (of_decide_eq_false hb5|>fun e=>by omega);refine A19 ?_;refine(Iz 0 xU uq) ?_;refine A2 ?_;refine(Iz 1 xU uq) ?_;refine A2 ?_;refine gV [_,_] rfl rfl rfl rfl (hkp _ _) ?_;refine A9 ?_;refine Rs 105 ?_ ?_<;>intro hb6
     ·have hnow:keep (decide (0<m+x.2.1)) (decide (0<n+x.2.2))=true:=hb6;refine A6 ?_;refine Cd ?_ ?_<;>intro hb7
      ·have hin:inn=false:=by have e:=hb7;simpa using e
       refine A2 ?_;refine LH 7 0 ?_;refine Ss 5 ?_;refine lm ?_;refine Ar (((i+1:Nat):Int)) ?_;refine A3 ?_;exact Nl ⟨⟨i+1,m+x.2.1,n+x.2.2,true,x.1,q,qb,qN,qc⟩,hlt,by show-((i+1:Nat):Int)<=m+x.2.1∧m+x.2.1<=((i+1:Nat):Int);omega,by show-((i+1:Nat):Int)<=n+x.2.2∧n+x.2.2<=((i+1:Nat):Int);omega,by rw[hI2,AQ hx hfar hnow];rw[hin];rfl,Nat.le_succ_of_le hq,h5,h6⟩ (hμ:=(by show l2.length-(i+1)<l2.length-i;omega)) (ht:=⟨rfl,rfl,rfl,rfl,rfl,(aB rfl (congrArg Value.bool hnow)),rfl,rfl,rfl,trivial⟩) (hL:=eG.auto)
      ·have hin:inn=true:=by have e:=hb7;simpa using e
       refine A5 ?_;refine Rs 114 ?_ ?_<;>intro hb8
       ·exact absurd hb8 (by rw[hnow];decide)
       ·refine II ?_;refine Ar (((i+1:Nat):Int)) ?_;refine A3 ?_;exact Nl ⟨⟨i+1,m+x.2.1,n+x.2.2,true,fb,q,qb,qN,qc⟩,hlt,by show-((i+1:Nat):Int)<=m+x.2.1∧m+x.2.1<=((i+1:Nat):Int);omega,by show-((i+1:Nat):Int)<=n+x.2.2∧n+x.2.2<=((i+1:Nat):Int);omega,by rw[hI2,AQ hx hfar hnow];rw[hin];rfl,Nat.le_succ_of_le hq,h5,h6⟩ (hμ:=(by show l2.length-(i+1)<l2.length-i;omega)) (ht:=⟨rfl,rfl,rfl,rfl,rfl,(aB rfl (congrArg Value.bool hnow)),rfl,rfl,rfl,trivial⟩) (hL:=eG.auto)
     ·have hnow:keep (decide (0<m+x.2.1)) (decide (0<n+x.2.2))=false:=hb6;refine lX ?_;refine Rs 114 ?_ ?_<;>intro hb7
      ·refine A5 ?_;refine Cd ?_ ?_<;>intro hb8
       ·have hin:inn=true:=hb8;refine A2 ?_;refine LH 5 0 ?_;refine A1 ?_;refine LH 7 0 ?_;refine Pc (yw fb x.1) ?_;refine(Bl 20 [(0,_)]) (lH) (fun g4=>?_);refine(Qa (s:=20) (len:=q.length) (n2:=1) 6 8 (fun r=>[_,_,_,_,_,_,⟨some r.g,61,ah bP q++bP (Ib fb x.1),r.n,true⟩,_,_]) F7 L6) (bI.length q) h5 h6 (bI.one (Ib fb x.1)) (fun r=>?_);refine oO ?_;refine Ar (((i+1:Nat):Int)) ?_;refine A3 ?_;exact Nl ⟨⟨i+1,m+x.2.1,n+x.2.2,false,fb,q++[Ib fb x.1],some r.g,r.n,r.cap⟩,hlt,by show-((i+1:Nat):Int)<=m+x.2.1∧m+x.2.1<=((i+1:Nat):Int);omega,by show-((i+1:Nat):Int)<=n+x.2.2∧n+x.2.2<=((i+1:Nat):Int);omega,by rw[hI2,AQ hx hfar hnow];rw[hin,List.append_assoc];rfl,by rw[List.length_append];exact Nat.succ_le_succ hq,by rw[List.length_append];exact r.h,r.hn⟩ (hμ:=(by show l2.length-(i+1)<l2.length-i;omega)) (ht:=⟨rfl,rfl,(aB rfl (by rw[List.length_append];rfl)),rfl,rfl,(aB rfl (congrArg Value.bool hnow)),rfl,rfl,rfl,trivial⟩) (hL:=(au [some 0,some 1,some 2,some 3,some 4,some 5,some 6] ⟨pR,pR,pR,pR,pR,pR,⟨_,rfl,aI (by rw[bH])⟩,trivial⟩ rfl rfl))
       ·have hin:inn=false:=hb8;refine lm ?_;refine Ar (((i+1:Nat):Int)) ?_;refine A3 ?_;exact Nl ⟨⟨i+1,m+x.2.1,n+x.2.2,false,fb,q,qb,qN,qc⟩,hlt,by show-((i+1:Nat):Int)<=m+x.2.1∧m+x.2.1<=((i+1:Nat):Int);omega,by show-((i+1:Nat):Int)<=n+x.2.2∧n+x.2.2<=((i+1:Nat):Int);omega,by rw[hI2,AQ hx hfar hnow];rw[hin];rfl,Nat.le_succ_of_le hq,h5,h6⟩ (hμ:=(by show l2.length-(i+1)<l2.length-i;omega)) (ht:=⟨rfl,rfl,rfl,rfl,rfl,(aB rfl (congrArg Value.bool hnow)),rfl,rfl,rfl,trivial⟩) (hL:=eG.auto)
      ·exact absurd hb7 (by rw[hnow];decide)
   ·have hge:i=l2.length:=(by have:=of_decide_eq_false hb4;omega);subst hge;obtain rfl:q=kY keep a b:=by rw[hI2,qe5,List.append_nil]
    refine lX ?_;refine aH rfl (aj rfl) (fun w hL=>⟨⟨qb,qN,qc,h5⟩,?_,hL.pk [some 6]⟩);exact rfl
def Le{S:Rl->Prop}{ρ:Rl->Int}(T:gU S ρ)(a:List Iv)(ab:Option Nat)(aN ac:Nat)(hac:a.length<=ac)(han:a.length<=1000)(b:List Iv)(bb:Option Nat)(bN bc:Nat)(hbc:b.length<=bc)(hbn:b.length<=1000)(ha:kE S a)(hb:kE S b)(oka:Gp ρ a)(okb:Gp ρ b)(hza:∀x∈a,jV x<=50000)(hzb:∀x∈b,jV x<=50000):dh Tryz.prog 104 [⟨ab,61,ah bP a,aN,false⟩,⟨bb,61,ah bP b,bN,false⟩] [az ab 0 a.length ac,az bb 0 b.length bc] (SR (kY orB a b).length) SR.v (fun z=>[⟨z.b,61,ah bP (kY orB a b),z.n,true⟩]):=by
 refine VZ 8 Tryz.func104 fun w hL0=>?_;refine A9 ?_;refine(Sc [0,1]) (AV T 153 orB Ip rfl a ab aN ac hac han b bb bN bc hbc hbn ha hb oka okb hza hzb) (fun z=>?_);refine A4 ?_;refine aH rfl (aj rfl) (fun w hL=>⟨z,?_,hL.pk [some 2]⟩);exact rfl
def Lh{S:Rl->Prop}{ρ:Rl->Int}(T:gU S ρ)(a:List Iv)(ab:Option Nat)(aN ac:Nat)(hac:a.length<=ac)(han:a.length<=1000)(b:List Iv)(bb:Option Nat)(bN bc:Nat)(hbc:b.length<=bc)(hbn:b.length<=1000)(ha:kE S a)(hb:kE S b)(oka:Gp ρ a)(okb:Gp ρ b)(hza:∀x∈a,jV x<=50000)(hzb:∀x∈b,jV x<=50000):dh Tryz.prog 151 [⟨ab,61,ah bP a,aN,false⟩,⟨bb,61,ah bP b,bN,false⟩] [az ab 0 a.length ac,az bb 0 b.length bc] (SR (kY (fun x y=>x&& !y) a b).length) SR.v (fun z=>[⟨z.b,61,ah bP (kY (fun x y=>x&& !y) a b),z.n,true⟩]):=by
 refine VZ 8 Tryz.func151 fun w hL0=>?_;refine A9 ?_;refine(Sc [0,1]) (AV T 191 (fun x y=>x&& !y) Iq rfl a ab aN ac hac han b bb bN bc hbc hbn ha hb oka okb hza hzb) (fun z=>?_);refine A4 ?_;refine aH rfl (aj rfl) (fun w hL=>⟨z,?_,hL.pk [some 2]⟩);exact rfl
def tq{S:Rl->Prop}{ρ:Rl->Int}(T:gU S ρ)(l:List Iv)(lb:Option Nat)(lN lc:Nat)(hlc:l.length<=lc)(hln:l.length<=1000)(hs:kE S l)(hok:Gp ρ l)(hsz:∀x∈l,jV x<=50000):dh Tryz.prog 50 [⟨lb,61,ah bP l,lN,false⟩] [az lb 0 l.length lc] (SR (jY l).length) SR.v (fun z=>[⟨z.b,61,ah bP (jY l),z.n,true⟩]):=by
 refine Md 5 Tryz.func50 fun w hL0=>?_;refine A6 ?_;refine Vz _ (au (L':=[_,⟨none,61,[],0,false⟩]) [some 0,none] ⟨pR,⟨rfl,rfl,rfl⟩,trivial⟩ rfl rfl) ?_;refine A2 ?_;refine iO [_,az none 0 ([]:List Iv).length 0] [0,1] rfl rfl rfl (Le T l lb lN lc hlc hln [] none 0 0 (Nat.le_refl _) (Nat.zero_le _) hs Sm hok (fun x hx=>by cases hx) hsz (fun x hx=>by cases hx)) ⟨pR,pR,trivial⟩ rfl (.inr fun x b hb=>by rw[List.mem_singleton.1 hb]) (fun z=>?_);refine A4 ?_;refine aH rfl (aj rfl) (fun w hL=>⟨z,?_,hL.pk [some 2]⟩);exact rfl
def Iu{S:Rl->Prop}{ρ:Rl->Int}(T:gU S ρ)(a:List Iv)(ab:Option Nat)(aN ac:Nat)(hac:a.length<=ac)(han:a.length<=1000)(b:List Iv)(bb:Option Nat)(bN bc:Nat)(hbc:b.length<=bc)(hbn:b.length<=1000)(ha:kE S a)(hb:kE S b)(oka:Gp ρ a)(okb:Gp ρ b)(hza:∀x∈a,jV x<=50000)(hzb:∀x∈b,jV x<=50000):dh Tryz.prog 102 [⟨ab,61,ah bP a,aN,false⟩,⟨bb,61,ah bP b,bN,false⟩] [az ab 0 a.length ac,az bb 0 b.length bc] Unit (fun _=> .bool (kY (fun x y=>x&& !y) b a).isEmpty) (fun _=>[]):=by
 refine VZ 10 Tryz.func102 fun w hL0=>?_;refine A9 ?_;refine(Sc [1,0]) (Lh T b bb bN bc hbc hbn a ab aN ac hac han hb ha okb oka hzb hza) (fun z=>?_);refine A6 ?_;refine aH rfl (aj rfl) (fun w hL=>⟨(),?_,hL.pk []⟩);exact eB (by cases kY (fun x y=>x&& !y) b a<;>rfl)
end Go.Proofs.YtaffcpfhedadhaaGreatDoor
namespace Go.Via
open Go
def TF(i:Iv):Int:=if(eH i.f&&eH i.t)=false then 5 else if jQ i=false then 10 else 0
section
variable{l:List (Iv×Qd)}{pv:Option Iv}{p:oZ}
def OD{i:Iv}(h:TF i=0):eH i.f=true∧eH i.t=true∧jQ i=true:=by
 unfold TF at h;cases h1:eH i.f<;>cases h2:eH i.t<;>cases h3:jQ i<;>simp[h1,h2,h3] at h ⊢
def qjD(h:TF p.i≠0):oL l pv p=TF p.i:=by
 unfold oL TF at*;cases h1:eH p.i.f<;>cases h2:eH p.i.t<;>cases h3:jQ p.i<;>simp[h1,h2,h3] at h ⊢
def qfn(h:TF p.i=0)(h2:(eH p.a&&eH p.b)=false):oL l pv p=5:=by
 obtain⟨a,b,c⟩:=OD h;unfold oL;rw[a,b,c,h2];rfl
def qll(h:TF p.i=0)(h2:(eH p.a&&eH p.b)=true)(h4:Aw pv p.i=true):oL l pv p=7:=by
 obtain⟨a,b,c⟩:=OD h;unfold oL;rw[a,b,c,h2,h4];rfl
def qjE(h:TF p.i=0)(h2:(eH p.a&&eH p.b)=true)(h4:Aw pv p.i=false)(h5:DT l p=true):oL l pv p=0:=by
 obtain⟨a,b,c⟩:=OD h;unfold oL;rw[a,b,c,h2,h4,h5];rfl
def qf2(h:TF p.i=0)(h2:(eH p.a&&eH p.b)=true)(h4:Aw pv p.i=false)(h5:DT l p=false):oL l pv p=30:=by
 obtain⟨a,b,c⟩:=OD h;unfold oL;rw[a,b,c,h2,h4,h5];rfl
def qfo(h:oL l pv p=0):jQ p.i=true:=by
 unfold oL at h;cases h1:eH p.i.f<;>cases h2:eH p.i.t<;>cases h3:jQ p.i<;>simp[h1,h2,h3] at h ⊢
end
def Xk(p:oZ)(x:Iv×Qd):Bool:=PO x.1 p.i&&decide (aZ (p.i,x.2)=p)
def ckB(cb:Option Nat):Nat->Option Addr
 |0=>none
 |i+1=>some ⟨cb.getD 0,i*38,none⟩
section
variable{a b:List PU}{c:List oZ}{m:Rl}
def qjF(h:(ay a b).length=0):36=vW a b c m:=by unfold vW;rw[if_pos (by rw[List.length_eq_zero_iff.1 h];rfl)]
theorem TG(h:(ay a b).length≠0):¬(ay a b).isEmpty=true:=fun e=>h (by rw[List.isEmpty_iff.1 e];rfl)
def qlm{e:Int}(h:(ay a b).length≠0)(hl:kZ (oL (ay a b)) none c=e)(h0:e≠0):e=vW a b c m:=by unfold vW;rw[if_neg (TG h),hl,if_pos h0]
def qjG(h:(ay a b).length≠0)(hl:kZ (oL (ay a b)) none c=0)(hn:jY (c.map (·.i))≠jY ((ay a b).map (·.1))):12=vW a b c m:=by
 unfold vW;rw[if_neg (TG h),hl,if_neg (by decide),if_pos hn]
def qln(h:(ay a b).length≠0)(hl:kZ (oL (ay a b)) none c=0)(hn:jY (c.map (·.i))=jY ((ay a b).map (·.1)))(hm:eH m=false):5=vW a b c m:=by
 unfold vW;rw[if_neg (TG h),hl,if_neg (by decide),if_neg (fun k=>k hn),if_pos hm]
def qjH(h:(ay a b).length≠0)(hl:kZ (oL (ay a b)) none c=0)(hn:jY (c.map (·.i))=jY ((ay a b).map (·.1)))(hm:eH m=true)(hx:m≠fO c):30=vW a b c m:=by
 unfold vW;rw[if_neg (TG h),hl,if_neg (by decide),if_neg (fun k=>k hn),hm,if_neg (by decide),if_pos hx]
def qlo(h:(ay a b).length≠0)(hl:kZ (oL (ay a b)) none c=0)(hn:jY (c.map (·.i))=jY ((ay a b).map (·.1)))(hm:eH m=true)(hx:m=fO c):0=vW a b c m:=by
 unfold vW;rw[if_neg (TG h),hl,if_neg (by decide),if_neg (fun k=>k hn),hm,if_neg (by decide),if_neg (fun k=>k hx)]
def qfp{S:Rl->Prop}{ρ:Rl->Int}(T:gU S ρ)(hP:∀x∈ay a b,(S x.1.f∧S x.1.t)∧aV ρ x.1.b<aV ρ x.1.e)(h:(ay a b).length≠0)(hn:jY (c.map (·.i))=jY ((ay a b).map (·.1))):0<c.length:=by
 rcases Nat.eq_zero_or_pos c.length with h0|h0
 ·rw[List.length_eq_zero_iff.1 h0] at hn;have hS:kE S ((ay a b).map (·.1)):=fun i hi=>by obtain⟨x,hx,rfl⟩:=List.mem_map.1 hi;exact(hP x hx).1
  have hO:Gp ρ ((ay a b).map (·.1)):=fun i hi=>by obtain⟨x,hx,rfl⟩:=List.mem_map.1 hi;exact(hP x hx).2
  have:=Sr T hS hO;rw[<-hn] at this;have e:(jY (([]:List oZ).map (·.i))).isEmpty=true:=rfl;rw[e] at this;have e2:=List.isEmpty_iff.1 this.symm;exact absurd (by simpa using congrArg List.length e2) h
 ·exact h0
end
end Go.Via
namespace Go.Proofs.YtaffcpfhedadhaaGreatDoor
def qjI:Tryz.prog.underlying 103=some (.pointer 63):=by kernel_rfl
open Go Go.Via
def qf3{S:Rl->Prop}{ρ:Rl->Int}(T:gU S ρ){x p:Iv}{v:Bool}(hx:S x.f∧S x.t)(hp:S p.f∧S p.t)(ox:aV ρ x.b<aV ρ x.e)(op:aV ρ p.b<aV ρ p.e)(sx:jV x<=50000)(sp:jV p<=50000)(h:PO x p=v)(gx gp:Nat):
 dh Tryz.prog 102 [⟨some gx,61,bP x,20,false⟩,⟨some gp,61,bP p,20,false⟩] [az (some gx) 0 1 1,az (some gp) 0 1 1] Unit (fun _=> .bool v) (fun _=>[]):=by
 subst h;exact Iu T [x] (some gx) 20 1 (Nat.le_refl _) (by simp) [p] (some gp) 20 1 (Nat.le_refl _) (by simp) (EZ hx) (EZ hp) (fun j hj=>by rw[List.mem_singleton.1 hj];exact ox) (fun j hj=>by rw[List.mem_singleton.1 hj];exact op) (fun j hj=>by rw[List.mem_singleton.1 hj];exact sx) (fun j hj=>by rw[List.mem_singleton.1 hj];exact sp)
end Go.Proofs.YtaffcpfhedadhaaGreatDoor
namespace Go.Via
variable[Mo]
open Go Go.RowKit
section
variable{P:Program}{bl:List Nat}{ops:Array Oper}{K:St->Prop}{rest:List Oper}{nt:Nat}{t:List (Nat×Value)}{L:List aG}{d:Nat}{ty:TypeId}{pos:String}{af:Array Edge}{g:Option (Nat×Bool)}{x y:Operand}
def qfq{T U e:Nat}{v:Option Addr}{n c:Nat}(hT:P.underlying T=some (.slice e))(hd:Nat.blt d nt=true)(hg:ax ops ⟨some d,.binOp .eql T x y U,ty,pos,af,g⟩ t=some true)(hx:ev t x=some (.slice v n c))(hy:ev t y=some (.slice none 0 0))
 (h:aW P bl ops rest ⟨nt,(d,.bool v.isNone)::t,L⟩ K):aW P bl ops (⟨some d,.binOp .eql T x y U,ty,pos,af,g⟩::rest) ⟨nt,t,L⟩ K:=
 gq hd hg rfl (fun B a w hrel=>by
 have:=Lib.run_eql_slice_nil (P:=P) w T e v n c 0 0 hT;simp[execOp,hrel.ev hx,hrel.ev hy,eqGuard,this]) h
def BV{T U:Nat}{v:Option Addr}{te:TypeId}{r:Bool}(hT:P.underlying T=some (.pointer te))(hd:Nat.blt d nt=true)(hg:ax ops ⟨some d,.binOp .neq T x y U,ty,pos,af,g⟩ t=some true)(hx:ev t x=some (.pointer v))(hy:ev t y=some (.pointer none))(hr:v.isSome=r)
 (h:aW P bl ops rest ⟨nt,(d,.bool r)::t,L⟩ K):aW P bl ops (⟨some d,.binOp .neq T x y U,ty,pos,af,g⟩::rest) ⟨nt,t,L⟩ K:=
 gq hd hg rfl (fun B a w hrel=>by
 subst hr;have h:∀d:Nat,(Op.equalIn (d+1) T (.pointer v) (.pointer none)).run P w= .ok v.isNone w:=fun d=>by
  cases v<;>simp[Op.equalIn,run_underlying hT]
 simp only[execOp,hrel.ev hx,hrel.ev hy,eqGuard,binOp];cases v<;>simp[Op.equal,Op.maxDepth,h 9999]) h
end
end Go.Via
namespace Go.Proofs.YtaffcpfhedadhaaGreatDoor
open Go Go.RowKit Go.Via
def Lj{S:Rl->Prop}{ρ:Rl->Int}(T:gU S ρ)(l:List (Iv×Qd))(lb:Option Nat)(lN lc:Nat)(hlc:l.length<=lc)(hln:l.length<=1000)(hlS:∀x∈l,(S x.1.f∧S x.1.t)∧aV ρ x.1.b<aV ρ x.1.e)(hlz:∀x∈l,jV x.1<=1000∧uB x.2<=10000)(c:List oZ)(cb:Option Nat)(cN cc:Nat)(hcc:c.length<=cc)(hcn:c.length<=1000)(p:oZ)(hp:S p.i.f∧S p.i.t)(hpz:jV p.i<=5000∧gY p.a<=5000∧gY p.b<=5000):dh Tryz.prog 48 [⟨lb,93,ah DR l,lN,false⟩,⟨cb,63,ah bg c,cN,false⟩] [az lb 0 l.length lc,Ie p,.pointer none] Unit (fun _=> .int .i64 (oL l none p)) (fun _=>[]):=by
 refine⟨by kernel_rfl,fun w hL0=>?_⟩;obtain⟨hz1,hz2,hz3⟩:=hpz;refine ZI 63 Tryz.func48 hL0 ?_;refine A2 ?_;refine Bp 38 (fun g0=>?_);refine A7 ?_;refine yB 2 0 ?_;refine Pc (qA p.i) ?_;refine A9 ?_;refine Cd ?_ ?_<;>intro hb0
 ·have r1:TF p.i≠0:=by have e:=hb0;simpa[TF] using e
  refine A8 ?_;refine aH rfl (aj rfl) (fun w hL=>⟨(),?_,hL.pk []⟩);exact congrArg (fun e:Int=>Ending.returned (.int .i64 e)) (qjD r1).symm
 ·have r1:TF p.i=0:=by have e:=hb0;simpa[TF] using e
  obtain⟨r2,r3,r4⟩:=OD r1;have hpo:=(uU T hp.1 hp.2).1 r4;refine A7 ?_;refine L9 2 20 ?_;refine Pc (jq p.a) ?_;refine A2 ?_;refine Rs 21 ?_ ?_<;>intro hb1
  ·have r5:eH p.a=false:=by cases e:eH p.a<;>simp[e] at hb1 ⊢
   refine MW ?_;refine aH rfl (aj rfl) (fun w hL=>⟨(),?_,hL.pk []⟩);exact congrArg (fun e:Int=>Ending.returned (.int .i64 e)) (qfn r1 (by rw[r5];rfl)).symm
  ·have r5:eH p.a=true:=by cases e:eH p.a<;>simp[e] at hb1 ⊢
   refine A1 ?_;refine L9 2 29 ?_;refine Pc (jq p.b) ?_;refine A5 ?_;refine Cd ?_ ?_<;>intro hb2
   ·have r6:eH p.b=false:=by cases e:eH p.b<;>simp[e] at hb2 ⊢
    refine A8 ?_;refine aH rfl (aj rfl) (fun w hL=>⟨(),?_,hL.pk []⟩);exact congrArg (fun e:Int=>Ending.returned (.int .i64 e)) (qfn r1 (by rw[r6,Bool.and_false])).symm
   ·have r6:eH p.b=true:=by cases e:eH p.b<;>simp[e] at hb2 ⊢
    refine A1 ?_;refine Di [] ?_;refine A1 ?_;refine BV qjI rfl rfl rfl rfl rfl ?_;refine A26 ?_;refine El (ι:={i:Nat // i<=l.length∧DT l p=(l.drop i).any (Xk p)}) (fun⟨i,hi,hI⟩=>([(0,az lb 0 l.length lc),(40,az lb 0 l.length lc),(41,bz (l.length)),(42,bz i),(4,dV g0)],[⟨lb,93,ah DR l,lN,false⟩,⟨cb,63,ah bg c,cN,false⟩,⟨some g0,63,bg p,38,true⟩],l.length-i)) ⟨0,Nat.zero_le _,rfl⟩ ?_ (hL:=eG.auto);rintro⟨i,hi,hI⟩;(try dsimp only);refine A6 ?_;refine Cd ?_ ?_<;>intro hb4
    ·have hlt:i<l.length:=(by have:=of_decide_eq_true hb4;omega);obtain⟨x,hx⟩:∃x,l[i]? =some x:=⟨l[i],List.getElem?_eq_getElem hlt⟩;obtain⟨hxS,hxo⟩:=hlS x (List.mem_of_getElem? hx);obtain⟨hxz,hxf⟩:=hlz x (List.mem_of_getElem? hx);refine fD 0 rfl (oH.ne (by decide) (by omega)) (fun hbs=>?_);obtain⟨gl,hgl⟩:=Option.isSome_iff_exists.1 hbs;replace hgl:lb=some gl:=hgl;subst hgl;refine A6 ?_;refine ai 0 ((i)*32) u88 LZ rfl rfl rfl rfl rfl (by omega) (by omega) (oH.ne (by decide) (by omega)) (by show 0+Int.toNat _*32=_;omega) ?_;refine aO (v:=PtV x) 0 ((i)*32) _ rfl rfl rfl rfl LZ (oH.sub hx 0 32 (by decide)) rfl (by decide) rfl ?_;refine Al 32 z93 (fun g1=>?_);refine Ss 3 ?_;refine A3 ?_;refine Dq [3000000] [0,1,3,4,2,5,6,7,8,9,10,11,13,12,14,15] ?_;refine A1 ?_;refine yB 3 0 ?_;refine A1 ?_;refine yB 2 0 ?_;refine(Bl 20 [(0,_)]) (lH) (fun g2=>?_);refine(Bl 20 [(0,_)]) (lH) (fun g3=>?_);refine(Sd [4,5]) (qf3 T hxS hp hxo hpo (by omega) (by omega) rfl g2 g3) ?_;refine A1 ?_;refine Rs 53 ?_ ?_<;>intro hb5
     ·have r8:PO x.1 p.i=true:=hb5;refine A1 ?_;refine yB 2 0 ?_;refine A1 ?_;refine ut 3 20 ?_;refine X7 2 0 ?_;refine dE [_,_] rfl rfl rfl (jO p.i x.2 ((BP _).1 r2).r0 ((BP _).1 r3).r0) ?_;refine gu rfl rfl rfl rfl qdB (qem _ _) ?_;refine A3 ?_;refine Cd ?_ ?_<;>intro hb6
      ·have r9:decide (aZ (p.i,x.2)=p)=true:=hb6;have hyes:Xk p x=true:=by unfold Xk;rw[r8,r9];rfl
       refine oO ?_;refine aH rfl (aj rfl) (fun w hL=>⟨(),?_,hL.pk []⟩);exact congrArg (fun e:Int=>Ending.returned (.int .i64 e)) (qjE r1 (by rw[r5,r6];rfl) rfl (by rw[hI,nM hx,hyes];rfl)).symm
      ·have r9:decide (aZ (p.i,x.2)=p)=false:=hb6;have hno:Xk p x=false:=by unfold Xk;rw[r8,r9];rfl
       refine A4 ?_;refine Ar (((i+1:Nat):Int)) ?_;refine A3 ?_;exact Nl ⟨i+1,hlt,by rw[hI,nM hx];simp only[hno,Bool.false_or]⟩ (hL:=eG.auto)
     ·have r8:PO x.1 p.i=false:=hb5;have hno:Xk p x=false:=by unfold Xk;rw[r8,Bool.false_and]
      refine zT ?_;refine Ar (((i+1:Nat):Int)) ?_;refine A3 ?_;exact Nl ⟨i+1,hlt,by rw[hI,nM hx];simp only[hno,Bool.false_or]⟩ (hL:=eG.auto)
    ·have hge:i=l.length:=(by have:=of_decide_eq_false hb4;omega);subst hge;refine oO ?_;refine aH rfl (aj rfl) (fun w hL=>⟨(),?_,hL.pk []⟩);exact congrArg (fun e:Int=>Ending.returned (.int .i64 e)) (qf2 r1 (by rw[r5,r6];rfl) rfl (by rw[hI,List.drop_length];rfl)).symm
def Ll{S:Rl->Prop}{ρ:Rl->Int}(T:gU S ρ)(l:List (Iv×Qd))(lb:Option Nat)(lN lc:Nat)(hlc:l.length<=lc)(hln:l.length<=1000)(hlS:∀x∈l,(S x.1.f∧S x.1.t)∧aV ρ x.1.b<aV ρ x.1.e)(hlz:∀x∈l,jV x.1<=1000∧uB x.2<=10000)(c:List oZ)(gc cN cc:Nat)(hcc:c.length<=cc)(hcn:c.length<=1000)(p:oZ)(hp:S p.i.f∧S p.i.t)(hpz:jV p.i<=5000∧gY p.a<=5000∧gY p.b<=5000)(j:Nat)(q:oZ)(hq:c[j]? =some q)(hqz:jV q.i<=50000:=by omega):dh Tryz.prog 48 [⟨lb,93,ah DR l,lN,false⟩,⟨some gc,63,ah bg c,cN,false⟩] [az lb 0 l.length lc,Ie p,.pointer (some ⟨gc,j*38,none⟩)] Unit (fun _=> .int .i64 (oL l (some q.i) p)) (fun _=>[]):=by
 refine⟨by kernel_rfl,fun w hL0=>?_⟩;obtain⟨hz1,hz2,hz3⟩:=hpz;refine ZI 63 Tryz.func48 hL0 ?_;refine A2 ?_;refine Bp 38 (fun g0=>?_);refine A7 ?_;refine yB 2 0 ?_;refine Pc (qA p.i) ?_;refine A9 ?_;refine Cd ?_ ?_<;>intro hb0
 ·have r1:TF p.i≠0:=by have e:=hb0;simpa[TF] using e
  refine A8 ?_;refine aH rfl (aj rfl) (fun w hL=>⟨(),?_,hL.pk []⟩);exact congrArg (fun e:Int=>Ending.returned (.int .i64 e)) (qjD r1).symm
 ·have r1:TF p.i=0:=by have e:=hb0;simpa[TF] using e
  obtain⟨r2,r3,r4⟩:=OD r1;have hpo:=(uU T hp.1 hp.2).1 r4;refine A7 ?_;refine L9 2 20 ?_;refine Pc (jq p.a) ?_;refine A2 ?_;refine Rs 21 ?_ ?_<;>intro hb1
  ·have r5:eH p.a=false:=by cases e:eH p.a<;>simp[e] at hb1 ⊢
   refine MW ?_;refine aH rfl (aj rfl) (fun w hL=>⟨(),?_,hL.pk []⟩);exact congrArg (fun e:Int=>Ending.returned (.int .i64 e)) (qfn r1 (by rw[r5];rfl)).symm
  ·have r5:eH p.a=true:=by cases e:eH p.a<;>simp[e] at hb1 ⊢
   refine A1 ?_;refine L9 2 29 ?_;refine Pc (jq p.b) ?_;refine A5 ?_;refine Cd ?_ ?_<;>intro hb2
   ·have r6:eH p.b=false:=by cases e:eH p.b<;>simp[e] at hb2 ⊢
    refine A8 ?_;refine aH rfl (aj rfl) (fun w hL=>⟨(),?_,hL.pk []⟩);exact congrArg (fun e:Int=>Ending.returned (.int .i64 e)) (qfn r1 (by rw[r6,Bool.and_false])).symm
   ·have r6:eH p.b=true:=by cases e:eH p.b<;>simp[e] at hb2 ⊢
    refine A1 ?_;refine Di [] ?_;refine A1 ?_;refine BV qjI rfl rfl rfl rfl rfl ?_;refine A3 ?_;refine Fg (j*38) 0 ?_;refine aO (v:=kF q.i) 1 (j*38) _ rfl rfl rfl rfl iC (bM.sub hq 0 20 (by decide)) rfl (by decide) rfl ?_;refine A1 ?_;refine yB 2 0 ?_;refine Pc (Cf q.i p.i) ?_;refine A5 ?_;refine Cd ?_ ?_<;>intro hb3
    ·have r7:Aw (some q.i) p.i=true:=hb3;refine A8 ?_;refine aH rfl (aj rfl) (fun w hL=>⟨(),?_,hL.pk []⟩);exact congrArg (fun e:Int=>Ending.returned (.int .i64 e)) (qll r1 (by rw[r5,r6];rfl) r7).symm
    ·have r7:Aw (some q.i) p.i=false:=hb3;refine lX ?_;refine El (ι:={i:Nat // i<=l.length∧DT l p=(l.drop i).any (Xk p)}) (fun⟨i,hi,hI⟩=>([(0,az lb 0 l.length lc),(40,az lb 0 l.length lc),(41,bz (l.length)),(42,bz i),(4,dV g0)],[⟨lb,93,ah DR l,lN,false⟩,⟨some gc,63,ah bg c,cN,false⟩,⟨some g0,63,bg p,38,true⟩],l.length-i)) ⟨0,Nat.zero_le _,rfl⟩ ?_ (hL:=eG.auto);rintro⟨i,hi,hI⟩;(try dsimp only);refine A6 ?_;refine Cd ?_ ?_<;>intro hb5
     ·have hlt:i<l.length:=(by have:=of_decide_eq_true hb5;omega);obtain⟨x,hx⟩:∃x,l[i]? =some x:=⟨l[i],List.getElem?_eq_getElem hlt⟩;obtain⟨hxS,hxo⟩:=hlS x (List.mem_of_getElem? hx);obtain⟨hxz,hxf⟩:=hlz x (List.mem_of_getElem? hx);refine fD 0 rfl (oH.ne (by decide) (by omega)) (fun hbs=>?_);obtain⟨gl,hgl⟩:=Option.isSome_iff_exists.1 hbs;replace hgl:lb=some gl:=hgl;subst hgl;refine A6 ?_;refine ai 0 ((i)*32) u88 LZ rfl rfl rfl rfl rfl (by omega) (by omega) (oH.ne (by decide) (by omega)) (by show 0+Int.toNat _*32=_;omega) ?_;refine aO (v:=PtV x) 0 ((i)*32) _ rfl rfl rfl rfl LZ (oH.sub hx 0 32 (by decide)) rfl (by decide) rfl ?_;refine Al 32 z93 (fun g1=>?_);refine Ss 3 ?_;refine A3 ?_;refine Dq [3000000] [0,1,3,4,2,5,6,7,8,9,10,11,13,12,14,15] ?_;refine A1 ?_;refine yB 3 0 ?_;refine A1 ?_;refine yB 2 0 ?_;refine(Bl 20 [(0,_)]) (lH) (fun g2=>?_);refine(Bl 20 [(0,_)]) (lH) (fun g3=>?_);refine(Sd [4,5]) (qf3 T hxS hp hxo hpo (by omega) (by omega) rfl g2 g3) ?_;refine A1 ?_;refine Rs 53 ?_ ?_<;>intro hb6
      ·have r8:PO x.1 p.i=true:=hb6;refine A1 ?_;refine yB 2 0 ?_;refine A1 ?_;refine ut 3 20 ?_;refine X7 2 0 ?_;refine dE [_,_] rfl rfl rfl (jO p.i x.2 ((BP _).1 r2).r0 ((BP _).1 r3).r0) ?_;refine gu rfl rfl rfl rfl qdB (qem _ _) ?_;refine A3 ?_;refine Cd ?_ ?_<;>intro hb7
       ·have r9:decide (aZ (p.i,x.2)=p)=true:=hb7;have hyes:Xk p x=true:=by unfold Xk;rw[r8,r9];rfl
        refine oO ?_;refine aH rfl (aj rfl) (fun w hL=>⟨(),?_,hL.pk []⟩);exact congrArg (fun e:Int=>Ending.returned (.int .i64 e)) (qjE r1 (by rw[r5,r6];rfl) r7 (by rw[hI,nM hx,hyes];rfl)).symm
       ·have r9:decide (aZ (p.i,x.2)=p)=false:=hb7;have hno:Xk p x=false:=by unfold Xk;rw[r8,r9];rfl
        refine A4 ?_;refine Ar (((i+1:Nat):Int)) ?_;refine A3 ?_;exact Nl ⟨i+1,hlt,by rw[hI,nM hx];simp only[hno,Bool.false_or]⟩ (hL:=eG.auto)
      ·have r8:PO x.1 p.i=false:=hb6;have hno:Xk p x=false:=by unfold Xk;rw[r8,Bool.false_and]
       refine zT ?_;refine Ar (((i+1:Nat):Int)) ?_;refine A3 ?_;exact Nl ⟨i+1,hlt,by rw[hI,nM hx];simp only[hno,Bool.false_or]⟩ (hL:=eG.auto)
     ·have hge:i=l.length:=(by have:=of_decide_eq_false hb5;omega);subst hge;refine oO ?_;refine aH rfl (aj rfl) (fun w hL=>⟨(),?_,hL.pk []⟩);exact congrArg (fun e:Int=>Ending.returned (.int .i64 e)) (qf2 r1 (by rw[r5,r6];rfl) r7 (by rw[hI,List.drop_length];rfl)).symm
end Go.Proofs.YtaffcpfhedadhaaGreatDoor
namespace Go.Proofs.YtaffcpfhedadhaaGreatDoor
open Go Go.RowKit Go.Via
def Qm{S:Rl->Prop}{ρ:Rl->Int}(T:gU S ρ)(l:List (Iv×Qd))(lb:Option Nat)(lN lc:Nat)(hlc:l.length<=lc)(hln:l.length<=1000)(hlS:∀x∈l,(S x.1.f∧S x.1.t)∧aV ρ x.1.b<aV ρ x.1.e)(hlz:∀x∈l,jV x.1<=1000∧uB x.2<=10000)
 (c:List oZ)(gc cN cc:Nat)(hcc:c.length<=cc)(hcn:c.length<=1000)(hcz:∀q∈c,jV q.i<=50000)(p:oZ)(hp:S p.i.f∧S p.i.t)(hpz:jV p.i<=5000∧gY p.a<=5000∧gY p.b<=5000)(i:Nat)(hi:i<=c.length):
 dh Tryz.prog 48 [⟨lb,93,ah DR l,lN,false⟩,⟨some gc,63,ah bg c,cN,false⟩] [az lb 0 l.length lc,Ie p,.pointer (ckB (some gc) i)] Unit (fun _=> .int .i64 (oL l (yx c i) p)) (fun _=>[]):=by
 cases i with
 |zero=>exact Lj T l lb lN lc hlc hln hlS hlz c (some gc) cN cc hcc hcn p hp hpz
 |succ i=>
  have hq:c[i]? =some c[i]:=List.getElem?_eq_getElem hi;rw[WW hq];exact Ll T l lb lN lc hlc hln hlS hlz c gc cN cc hcc hcn p hp hpz i _ hq (hcz _ (List.mem_of_getElem? hq))
end Go.Proofs.YtaffcpfhedadhaaGreatDoor
namespace Go.Via
open Go
def qjJ{α:Type}{p:α->Prop}{a:List α}{i:Nat}{x:α}(hx:a[i]? =some x)(h:∀u∈a.take i,p u)(hp:p x):∀u∈a.take (i+1),p u:=fun u hu=>by
 rw[<-dD hx] at hu;rcases List.mem_append.1 hu with h1|h1
 ·exact h u h1
 ·rw[List.mem_singleton.1 h1];exact hp
end Go.Via
namespace Go.Proofs.YtaffcpfhedadhaaGreatDoor
open Go Go.RowKit Go.Via
def vO{S:Rl->Prop}{ρ:Rl->Int}(T:gU S ρ)(a:List PU)(ab:Option Nat)(aN ac:Nat)(hac:a.length<=ac)(han:a.length<=200)(b:List PU)(bb:Option Nat)(bN bc:Nat)(hbc:b.length<=bc)(hbn:b.length<=200)(hsa:Hw a)(hsb:Hw b)(H:FB a b)(c:List oZ)(cb:Option Nat)(cN cc:Nat)(hcc:c.length<=cc)(hcn:c.length<=400)(m:Rl)(hcz:∀p∈c,jV p.i<=5000∧gY p.a<=5000∧gY p.b<=5000)(hmz:gY m<=5000)(hPS:∀x∈(ay a b),(S x.1.f∧S x.1.t)∧aV ρ x.1.b<aV ρ x.1.e)(hcS:∀p∈c,S p.i.f∧S p.i.t):dh Tryz.prog 16 [⟨ab,100,ah aQ a,aN,false⟩,⟨bb,100,ah aQ b,bN,false⟩,⟨cb,63,ah bg c,cN,false⟩] [az ab 0 a.length ac,az bb 0 b.length bc,CfV (az cb 0 c.length cc) m] Unit (fun _=> .int .i64 (vW a b c m)) (fun _=>[]):=by
 refine⟨by kernel_rfl,fun w hL0=>?_⟩;have hpl:=uC a b;have hpz:=yu hsa hsb;refine ZI 78 Tryz.func16 hL0 ?_;refine A2 ?_;refine Bp 10 (fun g0=>?_);refine A7 ?_;refine(Sc [0,1]) (o7 a ab aN ac hac (by omega) b bb bN bc hbc (by omega) hsa hsb) (fun zr=>?_);obtain⟨rb,rN,rc,hrc⟩:=zr;refine oO ?_;refine Cd ?_ ?_<;>intro hb0
 ·have hk0:(ay a b).length=0:=by have e:=hb0;simpa using e
  refine A7 ?_;refine aH rfl (aj rfl) (fun w hL=>⟨(),?_,hL.pk []⟩);exact congrArg (fun e:Int=>Ending.returned (.int .i64 e)) (qjF hk0)
 ·have hk0:(ay a b).length≠0:=by have e:=hb0;simpa using e
  refine A23 ?_;refine El (ι:={z:Nat×List Iv×Option Nat×Nat×Nat // z.1<=c.length∧z.2.1=(c.take z.1).map (·.i)∧z.2.1.length<=z.2.2.2.2∧z.2.2.2.2*20<=z.2.2.2.1∧kZ (oL (ay a b)) none c=kZ (oL (ay a b)) (yx c z.1) (c.drop z.1)∧∀q∈c.take z.1,jQ q.i=true}) (fun⟨⟨i,o,ob,oN,oc⟩,hi,hI,h3,h4,hLL,hOK⟩=>([(5,dV g0),(7,az rb 0 (ay a b).length rc),(8,.pointer (ckB cb i)),(9,az ob 0 o.length oc),(10,.slice none 0 0),(23,az cb 0 c.length cc),(24,bz (c.length)),(25,bz i)],[⟨ab,100,ah aQ a,aN,false⟩,⟨bb,100,ah aQ b,bN,false⟩,⟨cb,63,ah bg c,cN,false⟩,⟨some g0,40,jS (az cb 0 c.length cc) m,10,true⟩,⟨rb,93,ah DR (ay a b),rN,true⟩,⟨ob,61,ah bP o,oN,true⟩],c.length-i)) ⟨⟨0,[],none,0,0⟩,Nat.zero_le _,rfl,Nat.le_refl _,by simp,rfl,fun q hq=>by simp at hq⟩ ?_ (hL:=(au [some 0,some 1,some 2,some 3,some 4,none] ⟨pR,pR,pR,pR,pR,⟨rfl,rfl,rfl⟩,trivial⟩ rfl rfl));rintro⟨⟨i,o,ob,oN,oc⟩,hi,hI,h3,h4,hLL,hOK⟩;(try dsimp only);replace hi:i<=c.length:=hi;replace hI:o=(c.take i).map (·.i):=hI;replace h3:o.length<=oc:=h3;replace h4:oc*20<=oN:=h4;replace hLL:kZ (oL (ay a b)) none c=kZ (oL (ay a b)) (yx c i) (c.drop i):=hLL;replace hOK:∀q∈c.take i,jQ q.i=true:=hOK
  have hol:o.length<=400:=(by rw[hI,List.length_map,List.length_take];omega);refine A6 ?_;refine Cd ?_ ?_<;>intro hb2
  ·have hlt:i<c.length:=(by have:=of_decide_eq_true hb2;omega);obtain⟨p,hp⟩:∃p,c[i]? =some p:=⟨c[i],List.getElem?_eq_getElem hlt⟩;have hpm:=List.mem_of_getElem? hp;refine fD 2 rfl (bM.ne (by decide) (by omega)) (fun hbs=>?_);obtain⟨gc,hgc⟩:=Option.isSome_iff_exists.1 hbs;replace hgc:cb=some gc:=hgc;subst hgc;refine A7 ?_;refine ai 2 ((i)*38) u32 jJ rfl rfl rfl rfl rfl (by omega) (by omega) (bM.ne (by decide) (by omega)) (by show 0+Int.toNat _*38=_;omega) ?_;refine aO (v:=Ie p) 2 ((i)*38) _ rfl rfl rfl rfl jJ (bM.sub hp 0 38 (by decide)) rfl (by decide) rfl ?_;refine Al 38 z63 (fun g1=>?_);refine A1 ?_;refine Ss 6 ?_;refine A6 ?_;refine X7 6 0 ?_;refine A1 ?_;refine(Sd [4,2]) (Qm T (ay a b) rb rN rc hrc (by omega) hPS (fun x hx=>⟨Nat.le_trans (hpz x hx).1 (by omega),Nat.le_trans (hpz x hx).2 (by omega)⟩) c gc cN cc hcc (by omega) (fun q hq=>Nat.le_trans (hcz q hq).1 (by omega)) p (hcS p hpm) (hcz p hpm) i hi) ?_;refine A9 ?_;refine Cd ?_ ?_<;>intro hb3
   ·have he:oL (ay a b) (yx c i) p≠0:=by have e:=hb3;simpa using e
    refine CB ?_;refine aH rfl (aj rfl) (fun w hL=>⟨(),?_,hL.pk []⟩);exact congrArg (fun e:Int=>Ending.returned (.int .i64 e)) (qlm hk0 (qhM hp hLL rfl he) he)
   ·have he:oL (ay a b) (yx c i) p=0:=by have e:=hb3;simpa using e
    refine A7 ?_;refine ai 2 ((i)*38) u32 jJ rfl rfl rfl rfl rfl (by omega) (by omega) (bM.ne (by decide) (by omega)) (by show 0+Int.toNat _*38=_;omega) ?_;refine A6 ?_;refine yB 6 0 ?_;refine(Bl 20 [(0,_)]) (lH) (fun g2=>?_);refine(Qa (s:=20) (len:=o.length) (n2:=1) 5 7 (fun r=>[_,_,_,_,_,⟨some r.g,61,ah bP o++bP (p.i),r.n,true⟩,_,_]) F7 L6) (bI.length o) h3 h4 (bI.one (p.i)) (fun r=>?_);refine A5 ?_;refine Ar (((i+1:Nat):Int)) ?_;refine A3 ?_;exact Nl ⟨⟨i+1,o++[p.i],some r.g,r.n,r.cap⟩,hlt,by show o++[p.i]=(c.take (i+1)).map (·.i);rw[<-dD hp,List.map_append,<-hI];rfl,by rw[List.length_append];exact r.h,r.hn,qjv hp hLL he,qjJ hp hOK (qfo he)⟩ (hμ:=(by show c.length-(i+1)<c.length-i;omega)) (ht:=⟨rfl,rfl,rfl,(aB rfl (by rw[List.length_append];rfl)),rfl,rfl,rfl,rfl,trivial⟩) (hL:=(au [some 0,some 1,some 2,some 3,some 4,some 5] ⟨pR,pR,pR,pR,pR,⟨_,rfl,aI (by rw[bH])⟩,trivial⟩ rfl rfl))
  ·have hge:i=c.length:=(by have:=of_decide_eq_false hb2;omega);subst hge;have hl0:=qhN hLL;have hoe:o=c.map (·.i):=by rw[hI,List.take_length]
   refine D6 ?_;refine El (ι:={z:Nat×List Iv×Option Nat×Nat×Nat // z.1<=(ay a b).length∧z.2.1=((ay a b).take z.1).map (·.1)∧z.2.1.length<=z.2.2.2.2∧z.2.2.2.2*20<=z.2.2.2.1}) (fun⟨⟨j,q,qb,qN,qc⟩,hj,hJ,h5,h6⟩=>([(5,dV g0),(7,az rb 0 (ay a b).length rc),(9,az ob 0 o.length oc),(10,az qb 0 q.length qc),(47,az rb 0 (ay a b).length rc),(48,bz ((ay a b).length)),(49,bz j)],[⟨ab,100,ah aQ a,aN,false⟩,⟨bb,100,ah aQ b,bN,false⟩,⟨cb,63,ah bg c,cN,false⟩,⟨some g0,40,jS (az cb 0 c.length cc) m,10,true⟩,⟨rb,93,ah DR (ay a b),rN,true⟩,⟨ob,61,ah bP o,oN,true⟩,⟨qb,61,ah bP q,qN,true⟩],(ay a b).length-j)) ⟨⟨0,[],none,0,0⟩,Nat.zero_le _,rfl,Nat.le_refl _,by simp⟩ ?_ (hL:=(au [some 0,some 1,some 2,some 3,some 4,some 5,none] ⟨pR,pR,pR,pR,pR,pR,⟨rfl,rfl,rfl⟩,trivial⟩ rfl rfl));rintro⟨⟨j,q,qb,qN,qc⟩,hj,hJ,h5,h6⟩;(try dsimp only);replace hj:j<=(ay a b).length:=hj;replace hJ:q=((ay a b).take j).map (·.1):=hJ;replace h5:q.length<=qc:=h5;replace h6:qc*20<=qN:=h6;have hql:q.length<=400:=by rw[hJ,List.length_map,List.length_take];omega
   refine A6 ?_;refine Cd ?_ ?_<;>intro hb4
   ·have hjt:j<(ay a b).length:=(by have:=of_decide_eq_true hb4;omega);obtain⟨y,hy⟩:∃y,(ay a b)[j]? =some y:=⟨_,List.getElem?_eq_getElem hjt⟩;refine fD 4 rfl (oH.ne (by decide) (by omega)) (fun hbs=>?_);obtain⟨gr,hgr⟩:=Option.isSome_iff_exists.1 hbs;replace hgr:rb=some gr:=hgr;subst hgr;refine A6 ?_;refine ai 4 ((j)*32) u88 LZ rfl rfl rfl rfl rfl (by omega) (by omega) (oH.ne (by decide) (by omega)) (by show 0+Int.toNat _*32=_;omega) ?_;refine aO (v:=PtV y) 4 ((j)*32) _ rfl rfl rfl rfl LZ (oH.sub hy 0 32 (by decide)) rfl (by decide) rfl ?_;refine Al 32 z93 (fun g1=>?_);refine Ss 7 ?_;refine A5 ?_;refine yB 7 0 ?_;refine(Bl 20 [(0,_)]) (lH) (fun g2=>?_);refine(Qa (s:=20) (len:=q.length) (n2:=1) 6 8 (fun r=>[_,_,_,_,_,_,⟨some r.g,61,ah bP q++bP (y.1),r.n,true⟩,_,_]) F7 L6) (bI.length q) h5 h6 (bI.one (y.1)) (fun r=>?_);refine A5 ?_;refine Ar (((j+1:Nat):Int)) ?_;refine A3 ?_;exact Nl ⟨⟨j+1,q++[y.1],some r.g,r.n,r.cap⟩,hjt,by show q++[y.1]=((ay a b).take (j+1)).map (·.1);rw[<-dD hy,List.map_append,<-hJ];rfl,by rw[List.length_append];exact r.h,r.hn⟩ (hμ:=(by show(ay a b).length-(j+1)<(ay a b).length-j;omega)) (ht:=⟨rfl,rfl,rfl,(aB rfl (by rw[List.length_append];rfl)),rfl,rfl,rfl,trivial⟩) (hL:=(au [some 0,some 1,some 2,some 3,some 4,some 5,some 6] ⟨pR,pR,pR,pR,pR,pR,⟨_,rfl,aI (by rw[bH])⟩,trivial⟩ rfl rfl))
   ·have hge2:j=(ay a b).length:=(by have:=of_decide_eq_false hb4;omega);subst hge2;have hqe:q=(ay a b).map (·.1):=by rw[hJ,List.take_length]
    refine lm ?_;have hoS:kE S o:=fun x hx=>by rw[hoe] at hx;obtain⟨z,hz,rfl⟩:=List.mem_map.1 hx;exact hcS z hz
    have hoK:Gp ρ o:=fun x hx=>by rw[hoe] at hx;obtain⟨z,hz,rfl⟩:=List.mem_map.1 hx;exact(uU T (hcS z hz).1 (hcS z hz).2).1 (hOK z (by rw[List.take_length];exact hz))
    have hoz:∀x∈o,jV x<=50000:=fun x hx=>by rw[hoe] at hx;obtain⟨z,hz,rfl⟩:=List.mem_map.1 hx;exact Nat.le_trans (hcz z hz).1 (by omega)
    have hqS:kE S q:=fun x hx=>by rw[hqe] at hx;obtain⟨z,hz,rfl⟩:=List.mem_map.1 hx;exact(hPS z hz).1
    have hqK:Gp ρ q:=fun x hx=>by rw[hqe] at hx;obtain⟨z,hz,rfl⟩:=List.mem_map.1 hx;exact(hPS z hz).2
    have hqz:∀x∈q,jV x<=50000:=fun x hx=>by rw[hqe] at hx;obtain⟨z,hz,rfl⟩:=List.mem_map.1 hx;exact Nat.le_trans (hpz z hz).1 (by omega)
    have hno:=Ou orB o [];have hnq:=Ou orB q [];replace hno:(jY o).length<=4*o.length:=hno;replace hnq:(jY q).length<=4*q.length:=hnq;refine(Sc [5]) (tq T o ob oN oc h3 (by omega) hoS hoK hoz) (fun z1=>?_);refine A1 ?_;refine(Sc [6]) (tq T q qb qN qc h5 (by omega) hqS hqK hqz) (fun z2=>?_);refine(Sd [7,8]) (KR (jY o) z1.b z1.n z1.cap z1.h (by omega) (jY q) z2.b z2.n z2.cap z2.h) ?_;refine A4 ?_;refine Cd ?_ ?_<;>intro hb5
    ·have r8:jY (c.map (·.i))≠jY ((ay a b).map (·.1)):=by have e:=hb5;rw[hoe,hqe] at e;simpa using e
     refine A8 ?_;refine aH rfl (aj rfl) (fun w hL=>⟨(),?_,hL.pk []⟩);exact congrArg (fun e:Int=>Ending.returned (.int .i64 e)) (qjG hk0 hl0 r8)
    ·have r8:jY (c.map (·.i))=jY ((ay a b).map (·.1)):=by have e:=hb5;rw[hoe,hqe] at e;simpa using e
     have hc0:=qfp T hPS hk0 r8;refine A3 ?_;refine L9 3 1 ?_;refine Pc (jq m hmz) ?_;refine A4 ?_;refine Cd ?_ ?_<;>intro hb6
     ·have r9:eH m=false:=by cases e:eH m<;>simp[e] at hb6 ⊢
      refine A8 ?_;refine aH rfl (aj rfl) (fun w hL=>⟨(),?_,hL.pk []⟩);exact congrArg (fun e:Int=>Ending.returned (.int .i64 e)) (qln hk0 hl0 r8 r9)
     ·have r9:eH m=true:=by cases e:eH m<;>simp[e] at hb6 ⊢
      refine A1 ?_;refine Di [] ?_;refine A1 ?_;refine L9 3 1 ?_;refine A2 ?_;refine(Sd [2]) (qO c cb cN cc hcc (by omega) (fun p hp=>⟨Nat.le_trans (hcz p hp).2.1 (by omega),Nat.le_trans (hcz p hp).2.2 (by omega)⟩) hc0) ?_;refine xM rfl rfl rfl rfl Mc (MB _ _) ?_;refine A3 ?_;refine Cd ?_ ?_<;>intro hb7
      ·have rx:m≠fO c:=by have e:=hb7;simpa using e
       refine A8 ?_;refine aH rfl (aj rfl) (fun w hL=>⟨(),?_,hL.pk []⟩);exact congrArg (fun e:Int=>Ending.returned (.int .i64 e)) (qjH hk0 hl0 r8 r9 rx)
      ·have rx:m=fO c:=by have e:=hb7;simpa using e
       refine A9 ?_;refine aH rfl (aj rfl) (fun w hL=>⟨(),?_,hL.pk []⟩);exact congrArg (fun e:Int=>Ending.returned (.int .i64 e)) (qlo hk0 hl0 r8 r9 rx)
def YV(l:List PU)(lb:Option Nat)(lN lc:Nat)(hlc:l.length<=lc:=by omega)(hln:l.length<=1000:=by omega)(h0:0<l.length:=by omega):dh Tryz.prog 214 [⟨lb,201,ah aQ l,lN,false⟩] [az lb 0 l.length lc] (OR l.length 36) (fun r=>az r.b 0 l.length r.cap) (fun r=>[⟨r.b,201,ah aQ l,r.n,true⟩]):=by
 refine Md 8 Tryz.func214 fun w hL0=>?_;refine A7 ?_;refine fD 0 rfl (aC.ne (by decide) (by omega)) (fun hbs=>?_);obtain⟨gl,hgl⟩:=Option.isSome_iff_exists.1 hbs;replace hgl:lb=some gl:=hgl;subst hgl;refine A2 ?_;refine qfq kX rfl rfl rfl rfl ?_;refine A7 ?_;refine(Bl 0 []) (qdy) (fun g0=>?_);refine A1 ?_;refine fK (s:=36) (len:=0) 1 0 (ah aQ l) (fun r=>[_,⟨r.b,201,ah aQ l,r.n,true⟩]) kX Ae rfl rfl rfl rfl rfl rfl rfl rfl rfl rfl rfl (Nat.le_refl _) (Nat.le_refl _) (.inr ⟨_,rfl⟩) (by rw[List.drop_zero,<-aC.length l,List.take_length]) (aC.length l) (aC.ones _) (by omega) (fun _=>rfl) (fun r=>?_);refine A4 ?_;refine aH rfl (aj rfl) (fun w hL=>⟨⟨r.b,r.n,r.cap,Nat.le_trans (Nat.le_of_eq (Nat.zero_add _).symm) r.h,r.hn⟩,?_,hL.pk [some 1]⟩);exact congrArg (fun z=>Ending.returned (az r.b 0 z r.cap)) (Nat.zero_add _)
def Iw(l:List PU)(lb:Option Nat)(lN lc:Nat)(hlc:l.length<=lc)(hln:l.length<=1000)(hlN:lc*36<=lN)(h20:l.length<20)(hs:Xb l)(hz:∀u∈l,jV u.i<=50000):Cm Tryz.prog 237 [⟨lb,201,ah aQ l,lN,true⟩] [az lb 0 l.length lc,bz (l.length),.func (.func 216) #[] #[]] Unit (fun _=> .tuple #[]) (fun _=>[⟨lb,201,ah aQ l,lN,true⟩]):=by
 refine⟨by kernel_rfl,fun B w hD hL0=>?_⟩;refine ZI 63 Tryz.func237 hL0 ?_;refine D6 ?_;refine El (ι:={u:Unit // True}) (fun⟨u,hu⟩=>([(0,az lb 0 l.length lc),(1,bz (l.length)),(2,.func (.func 216) #[] #[]),(6,.int .i64 20),(7,.int .i64 0),(8,.int .i64 20)],[⟨lb,201,ah aQ l,lN,true⟩],0)) ⟨(),trivial⟩ ?_ (hL:=eG.auto);rintro⟨u,hu⟩;(try dsimp only);refine A8 ?_;refine Cd ?_ ?_<;>intro hb1
 ·exact absurd (of_decide_eq_true hb1) (by omega)
 ·refine A6 ?_;refine mV ?_;refine A4 ?_;refine Gm 1 [0] [] (fun _=>[_]) (qfa l lb lN lc hs hz hlc hlN) (fun _=>?_);refine A3 ?_;refine El (ι:={u:Unit // True}) (fun⟨u,hu⟩=>([(0,az lb 0 l.length lc),(1,bz (l.length)),(2,.func (.func 216) #[] #[]),(6,.int .i64 20)],[⟨lb,201,ah aQ l,lN,true⟩],0)) ⟨(),trivial⟩ ?_ (hL:=eG.auto);rintro⟨u,hu⟩;(try dsimp only);refine A8 ?_;refine Cd ?_ ?_<;>intro hb3
  ·exact absurd (of_decide_eq_true hb3) (by omega)
  ·refine A4 ?_
   refine Jr rfl (fun w hL=>⟨(),?_,hL.pk [some 0]⟩);exact rfl
def GU(l:List PU)(lb:Option Nat)(lN lc:Nat)(hlc:l.length<=lc)(hln:l.length<=1000)(hlN:lc*36<=lN)(h20:l.length<20)(hs:Xb l)(hz:∀u∈l,jV u.i<=50000):Cm Tryz.prog 215 [⟨lb,201,ah aQ l,lN,true⟩] [az lb 0 l.length lc,.func (.func 216) #[] #[]] Unit (fun _=> .tuple #[]) (fun _=>[⟨lb,201,ah aQ l,lN,true⟩]):=by
 refine⟨by kernel_rfl,fun B w hD hL0=>?_⟩;refine YZ 9 Tryz.func215 hL0 ?_;refine mV ?_;refine A4 ?_;refine Gm 1 [0] [] (fun _=>[_]) (Iw l lb lN lc hlc hln hlN h20 hs hz) (fun _=>?_);refine A1 ?_
 refine Jr rfl (fun w hL=>⟨(),?_,hL.pk [some 0]⟩);exact rfl
def Iy(l:List PU)(lb:Option Nat)(lN lc:Nat)(hlc:l.length<=lc)(hln:l.length<=1000)(h0:0<l.length)(h20:l.length<20)(hs:Xb l)(hz:∀u∈l,jV u.i<=50000):dh Tryz.prog 184 [⟨lb,201,ah aQ l,lN,false⟩] [az lb 0 l.length lc] (SR (l).length) SR.v (fun z=>[⟨z.b,201,ah aQ (l),z.n,true⟩]):=by
 refine Md 9 Tryz.func184 fun w hL0=>?_;refine A8 ?_;refine(Sc [0]) (YV l lb lN lc hlc hln h0) (fun z=>?_);obtain⟨ob,oN,oc,hoc,hoN⟩:=z;refine A4 ?_;refine mV ?_;refine A1 ?_;refine Gm 1 [1] [] (fun _=>[_,_]) (GU l ob oN oc hoc hln hoN h20 hs hz) (fun _=>?_);refine A9 ?_;refine aH rfl (aj rfl) (fun w hL=>⟨⟨ob,oN,oc,hoc⟩,?_,hL.pk [some 1]⟩);exact rfl
def Lp(t:Rl)(f:Ln)(o:List PU)(ob:Option Nat)(oN oc n0 gv:Nat)(hn0:n0=o.length)(h3:n0<=oc:=by omega)(h4:oc*36<=oN:=by omega)(hm:n0<=100000:=by omega):Cm Tryz.prog 219 [⟨some gv,148,[az ob 0 n0 oc],1,true⟩,⟨ob,201,ah aQ o,oN,true⟩] [RV t,xK f,dV gv] (OR (n0+1) 36) (fun _=> .tuple #[]) (fun r=>[⟨some gv,148,[az r.b 0 (n0+1) r.cap],1,true⟩,⟨r.b,201,ah aQ (o++[yY t f]),r.n,true⟩]):=by
 refine⟨by kernel_rfl,fun B w hD hL0=>?_⟩;refine ZI 13 Tryz.func219 hL0 ?_;refine A2 ?_;refine Bp 9 (fun g0=>?_);refine Bp 16 (fun g1=>?_);refine A4 ?_;refine L9 2 0 ?_;refine L9 2 0 ?_;refine(Bu [(0,_),(1,_)]) (JM) ?_;refine Kr 8 (kF ⟨t,t,false,false⟩) ?_;refine X6 3 0 ?_;refine(Bu [(0,_),(1,_)]) (Ew) ?_;refine Kr 10 (U2 (yY t f)) ?_;refine(Bl 36 [(0,_)]) (rF) (fun g2=>?_);refine(Qa (s:=36) (len:=n0) (n2:=1) 1 4 (fun r=>[_,⟨some r.g,201,ah aQ o++aQ (yY t f),r.n,true⟩,_,_,_]) kX Ae) (by exact(by rw[aC.length,hn0])) h3 h4 (aC.one (yY t f)) (fun r=>?_);refine Ss 0 ?_;refine A1 ?_
 refine Jr rfl (fun w hL=>⟨⟨some r.g,r.n,r.cap,r.h,r.hn⟩,?_,hL.picks [some 0,some 1] ⟨pR,⟨_,rfl,aI (by rw[bH])⟩,trivial⟩ rfl rfl⟩);exact rfl
def CZ(l:List PU)(lb:Option Nat)(lN lc:Nat)(hlc:l.length<=lc)(hln:l.length<=1000)(t:Rl):dh Tryz.prog 188 [⟨lb,201,ah aQ l,lN,false⟩] [az lb 0 l.length lc,RV t] Unit (fun _=> .bool (qh l t)) (fun _=>[]):=by
 refine VZ 31 Tryz.func188 fun w hL0=>?_;refine A2 ?_;refine Bp 9 (fun g0=>?_);refine oO ?_;refine rH 0 rfl (fun hba=>?_);have hlb:l.length=0∨∃g,lb=some g:=sS aC (by decide) hba;refine Di [] ?_ (hc:=(oz [0,1,3,7,7,23,63,127,255,511,7,2047,4095,8191,16383,16383,49151,131071,262143,524287,1048575,2097151,4194303,8388607] (by kernel_rfl)));refine A3 ?_;refine Rs 10 ?_ ?_<;>intro hb0
 ·have hlt:0<l.length:=(by have:=of_decide_eq_true hb0;omega);obtain⟨u,hu⟩:∃u,l[l.length-1]? =some u:=⟨_,List.getElem?_eq_getElem (by omega)⟩;obtain⟨gl,hgl⟩:=hlb.resolve_left (by omega);subst hgl;refine A2 ?_;refine(Aq ((l.length:Int)-1)) (by exact(congrArg some (wi (by omega) (by omega) rfl))) ?_;refine ai 0 ((l.length-1)*36) kX jK rfl rfl rfl rfl rfl (by omega) (by omega) (aC.ne (by decide) (by omega)) (by show 0+Int.toNat _*36=_;omega) ?_;refine Fg ((l.length-1)*36) 0 ?_;refine Fg ((l.length-1)*36+0) 9 ?_;refine aO (v:=RV u.i.t) 0 ((l.length-1)*36+0+9) _ rfl rfl rfl rfl iK (aC.sub hu 9 9 (by decide)) rfl (by decide) rfl ?_;refine L9 1 0 ?_;refine gu rfl rfl rfl rfl Mc (MB _ _) ?_;refine A2 ?_;refine Rs 21 ?_ ?_<;>intro hb1
  ·have hut:decide (u.i.t=t)=true:=hb1;refine A2 ?_;refine(Aq ((l.length:Int)-1)) (by exact(congrArg some (wi (by omega) (by omega) rfl))) ?_;refine ai 0 ((l.length-1)*36) kX jK rfl rfl rfl rfl rfl (by omega) (by omega) (aC.ne (by decide) (by omega)) (by show 0+Int.toNat _*36=_;omega) ?_;refine Fg ((l.length-1)*36) 0 ?_;refine Fg ((l.length-1)*36+0) 19 ?_;refine aO (v:= .bool u.i.tp) 0 ((l.length-1)*36+0+19) _ rfl rfl rfl rfl ti4 (aC.sub hu 19 1 (by decide)) rfl (by decide) rfl ?_;refine A6 ?_;refine aH rfl (aj rfl) (fun w hL=>⟨(),?_,hL.pk []⟩);rw[Oz hu,hut];rfl
  ·have hut:decide (u.i.t=t)=false:=hb1;refine CB ?_;refine aH rfl (aj rfl) (fun w hL=>⟨(),?_,hL.pk []⟩);rw[Oz hu,hut];rfl
 ·have hlt:¬0<l.length:=by have e:=of_decide_eq_false hb0;omega
  refine A24 ?_;refine aH rfl (aj rfl) (fun w hL=>⟨(),?_,hL.pk []⟩);rw[YQ hlt]
def Lr(l:List PU)(lb:Option Nat)(lN lc:Nat)(hlc:l.length<=lc:=by omega)(hln:l.length<=1000:=by omega):dh Tryz.prog 186 [⟨lb,201,ah aQ l,lN,false⟩] [az lb 0 l.length lc] (SR (aF l).length) SR.v (fun z=>[⟨z.b,201,ah aQ (aF l),z.n,true⟩]):=by
 refine Md 54 Tryz.func186 fun w hL0=>?_;refine A7 ?_;refine Vw [_] 1 (fun g=>[_,⟨some g,148,_,1,true⟩]) rfl rfl z148 rfl rfl (fun _=>rfl) (fun g0=>?_);refine MW ?_;refine El (ι:={z:Nat×List PU×Option Nat×Nat×Nat // z.1<=l.length∧z.2.1=aF (l.take z.1)∧z.2.1.length<=z.2.2.2.2∧z.2.2.2.2*36<=z.2.2.2.1}) (fun⟨⟨i,o,ob,oN,oc⟩,hi,hI,h3,h4⟩=>([(3,dV g0),(4,.func (.func 219) #[] #[dV g0]),(8,az lb 0 l.length lc),(9,bz (l.length)),(10,bz i)],[⟨lb,201,ah aQ l,lN,false⟩,⟨some g0,148,[az ob 0 o.length oc],1,true⟩,⟨ob,201,ah aQ o,oN,true⟩],l.length-i)) ⟨⟨0,[],none,0,0⟩,Nat.zero_le _,rfl,Nat.le_refl _,by simp⟩ ?_ (hL:=(au [some 0,some 1,none] ⟨pR,pR,⟨rfl,rfl,rfl⟩,trivial⟩ rfl rfl));rintro⟨⟨i,o,ob,oN,oc⟩,hi,hI,h3,h4⟩;(try dsimp only);replace hi:i<=l.length:=hi;replace hI:o=aF (l.take i):=hI;replace h3:o.length<=oc:=h3;replace h4:oc*36<=oN:=h4
 have hol:o.length<=10000:=(by have:= @BN (l.take i);rw[hI];simp only[List.length_take] at this;omega);refine A6 ?_;refine Cd ?_ ?_<;>intro hb1
 ·have hlt:i<l.length:=(by have:=of_decide_eq_true hb1;omega);obtain⟨x,hx⟩:∃x,l[i]? =some x:=⟨l[i],List.getElem?_eq_getElem hlt⟩;refine fD 0 rfl (aC.ne (by decide) (by omega)) (fun hbs=>?_);obtain⟨gl,hgl⟩:=Option.isSome_iff_exists.1 hbs;replace hgl:lb=some gl:=hgl;subst hgl;refine A6 ?_;refine ai 0 ((i)*36) kX jK rfl rfl rfl rfl rfl (by omega) (by omega) (aC.ne (by decide) (by omega)) (by show 0+Int.toNat _*36=_;omega) ?_;refine aO (v:=U2 x) 0 ((i)*36) _ rfl rfl rfl rfl jK (aC.sub hx 0 36 (by decide)) rfl (by decide) rfl ?_;refine Al 36 qiT (fun g1=>?_);refine Ss 3 ?_;refine oO ?_;refine Cd ?_ ?_<;>intro hb2
  ·have hfo:x.i.fo=false:=by have e:=hb2;simpa using e
   refine mV ?_;refine A3 ?_;refine L9 3 0 ?_;refine A1 ?_;refine Ld 3 20 [_,_,_,_,_,_,_,_,_,_,_,_,_,_,_,_] Dx ?_;refine F9 (f:=219) (A:=[⟨some g0,148,[az ob 0 o.length oc],1,true⟩,⟨ob,201,ah aQ o,oN,true⟩]) (C:=[]) [RV x.i.f,xK x.f] [dV g0] [1,2] [] (fun r1=>[_,⟨some g0,148,[az r1.b 0 (o.length+1) r1.cap],1,true⟩,⟨r1.b,201,ah aQ (o++[yY x.i.f x.f]),r1.n,true⟩,_]) rfl rfl rfl rfl rfl (Lp x.i.f x.f o ob oN oc o.length g0 rfl h3 h4) (by decide) rfl rfl trivial rfl rfl (fun _=>rfl) (fun _=>OX rfl) (fun _=>rfl) (fun r1=>?_);refine A6 ?_;refine yB 3 0 ?_;refine Pc (iM _) ?_;refine A2 ?_;refine Cd ?_ ?_<;>intro hb3
   ·have hin:fJ x.i=true:=hb3;refine A5 ?_;refine Ar (((i+1:Nat):Int)) ?_;refine A3 ?_;exact Nl ⟨⟨i+1,(o++[yY x.i.f x.f]),r1.b,r1.n,r1.cap⟩,hlt,by show(o++[yY x.i.f x.f])=aF (l.take (i+1));rw[<-rq hx,<-hI,qbT hfo hin];(try simp),Nat.le_trans (Nat.le_of_eq ((show(o.length+1)=(o++[yY x.i.f x.f]).length by simp)).symm) r1.h,r1.hn⟩ (hμ:=(by show l.length-(i+1)<l.length-i;omega)) (hL:=(au [some 0,some 1,some 2] ⟨pR,⟨_,rfl,aI (by rw[show((o++[yY x.i.f x.f])).length=(o.length+1) by simp])⟩,pR,trivial⟩ rfl rfl))
   ·have hin:fJ x.i=false:=hb3;refine A7 ?_;refine L9 3 0 ?_;refine A2 ?_;refine Ld 3 9 [_,_,_,_,_,_,_,_,_] iK ?_;refine(Bu [(0,_),(1,_),(2,_),(3,_)]) (JO) ?_;refine Kr 35 (kF ⟨x.i.f,x.i.t,true,true⟩) ?_;refine A1 ?_;refine Ld 3 20 [_,_,_,_,_,_,_,_,_,_,_,_,_,_,_,_] Dx ?_;refine(Bu [(0,_),(1,_)]) (Ew) ?_;refine Kr 38 (U2 (mM x)) ?_;refine(Bl 36 [(0,_)]) (rF) (fun g2=>?_);refine fH (s:=36) (len:=(o.length+1)) (n2:=1) 2 4 (fun r2=>[_,_,⟨some r2.g,201,ah aQ ((o++[yY x.i.f x.f])++[mM x]),r2.n,true⟩,_,_]) kX Ae rfl rfl rfl rfl rfl rfl rfl rfl rfl rfl rfl rfl ((aC.length _).trans (congrArg (· *36) ((show(o.length+1)=(o++[yY x.i.f x.f]).length by simp)).symm)) r1.h r1.hn rfl (aC.one (mM x)) (by omega) (fun _=>congrArg (fun c=>_::_::aG.mk _ 201 c _ true::_) (bH (o++[yY x.i.f x.f]) (mM x))) (fun r2=>?_);refine So 1 0 [_,⟨some g0,148,_,1,true⟩,_,_,_] [_] ?_;refine lm ?_;refine Cd ?_ ?_<;>intro hb4
    ·have htp:x.i.tp=false:=by have e:=hb4;simpa using e
     refine mV ?_;refine A3 ?_;refine Ld 3 9 [_,_,_,_,_,_,_,_,_] iK ?_;refine A1 ?_;refine Ld 3 20 [_,_,_,_,_,_,_,_,_,_,_,_,_,_,_,_] Dx ?_;refine F9 (f:=219) (A:=[⟨some g0,148,[az (some r2.g) 0 ((o.length+1)+1) r2.cap],1,true⟩,⟨(some r2.g),201,ah aQ ((o++[yY x.i.f x.f])++[mM x]),r2.n,true⟩]) (C:=[]) [RV x.i.t,xK x.f] [dV g0] [1,2] [] (fun r3=>[_,⟨some g0,148,[az r3.b 0 (((o.length+1)+1)+1) r3.cap],1,true⟩,⟨r3.b,201,ah aQ (((o++[yY x.i.f x.f])++[mM x])++[yY x.i.t x.f]),r3.n,true⟩,_,_]) rfl rfl rfl rfl rfl (Lp x.i.t x.f ((o++[yY x.i.f x.f])++[mM x]) (some r2.g) r2.n r2.cap ((o.length+1)+1) g0 (show((o.length+1)+1)=((o++[yY x.i.f x.f])++[mM x]).length by simp) r2.h r2.hn) (by decide) rfl rfl trivial rfl rfl (fun _=>rfl) (fun _=>OX rfl) (fun _=>rfl) (fun r3=>?_);refine A4 ?_;refine Ar (((i+1:Nat):Int)) ?_;refine A3 ?_;exact Nl ⟨⟨i+1,(((o++[yY x.i.f x.f])++[mM x])++[yY x.i.t x.f]),r3.b,r3.n,r3.cap⟩,hlt,by show(((o++[yY x.i.f x.f])++[mM x])++[yY x.i.t x.f])=aF (l.take (i+1));rw[<-rq hx,<-hI,qbU hfo hin htp];(try simp),Nat.le_trans (Nat.le_of_eq ((show(((o.length+1)+1)+1)=(((o++[yY x.i.f x.f])++[mM x])++[yY x.i.t x.f]).length by simp)).symm) r3.h,r3.hn⟩ (hμ:=(by show l.length-(i+1)<l.length-i;omega)) (hL:=(au [some 0,some 1,some 2] ⟨pR,⟨_,rfl,aI (by rw[show((((o++[yY x.i.f x.f])++[mM x])++[yY x.i.t x.f])).length=(((o.length+1)+1)+1) by simp])⟩,pR,trivial⟩ rfl rfl))
    ·have htp:x.i.tp=true:=by have e:=hb4;simpa using e
     refine A4 ?_;refine Ar (((i+1:Nat):Int)) ?_;refine A3 ?_;exact Nl ⟨⟨i+1,((o++[yY x.i.f x.f])++[mM x]),(some r2.g),r2.n,r2.cap⟩,hlt,by show((o++[yY x.i.f x.f])++[mM x])=aF (l.take (i+1));rw[<-rq hx,<-hI,qbV hfo hin htp];(try simp),Nat.le_trans (Nat.le_of_eq ((show((o.length+1)+1)=((o++[yY x.i.f x.f])++[mM x]).length by simp)).symm) r2.h,r2.hn⟩ (hμ:=(by show l.length-(i+1)<l.length-i;omega)) (hL:=(au [some 0,some 1,some 2] ⟨pR,⟨_,rfl,aI (by rw[show(((o++[yY x.i.f x.f])++[mM x])).length=((o.length+1)+1) by simp])⟩,pR,trivial⟩ rfl rfl))
  ·have hfo:x.i.fo=true:=by have e:=hb2;simpa using e
   refine A6 ?_;refine yB 3 0 ?_;refine Pc (iM _) ?_;refine A2 ?_;refine Cd ?_ ?_<;>intro hb3
   ·have hin:fJ x.i=true:=hb3;refine A5 ?_;refine Ar (((i+1:Nat):Int)) ?_;refine A3 ?_;exact Nl ⟨⟨i+1,o,ob,oN,oc⟩,hlt,by show o=aF (l.take (i+1));rw[<-rq hx,<-hI,qbW hfo hin];(try simp),Nat.le_trans (Nat.le_of_eq (rfl).symm) h3,h4⟩ (hμ:=(by show l.length-(i+1)<l.length-i;omega)) (hL:=(au [some 0,some 1,some 2] ⟨pR,⟨_,rfl,aI (by rw[show(o).length=o.length by simp])⟩,pR,trivial⟩ rfl rfl))
   ·have hin:fJ x.i=false:=hb3;refine A7 ?_;refine L9 3 0 ?_;refine A2 ?_;refine Ld 3 9 [_,_,_,_,_,_,_,_,_] iK ?_;refine(Bu [(0,_),(1,_),(2,_),(3,_)]) (JO) ?_;refine Kr 35 (kF ⟨x.i.f,x.i.t,true,true⟩) ?_;refine A1 ?_;refine Ld 3 20 [_,_,_,_,_,_,_,_,_,_,_,_,_,_,_,_] Dx ?_;refine(Bu [(0,_),(1,_)]) (Ew) ?_;refine Kr 38 (U2 (mM x)) ?_;refine(Bl 36 [(0,_)]) (rF) (fun g2=>?_);refine fH (s:=36) (len:=o.length) (n2:=1) 2 4 (fun r1=>[_,_,⟨some r1.g,201,ah aQ (o++[mM x]),r1.n,true⟩,_,_]) kX Ae rfl rfl rfl rfl rfl rfl rfl rfl rfl rfl rfl rfl ((aC.length _).trans (congrArg (· *36) (rfl).symm)) h3 h4 rfl (aC.one (mM x)) (by omega) (fun _=>congrArg (fun c=>_::_::aG.mk _ 201 c _ true::_) (bH o (mM x))) (fun r1=>?_);refine So 1 0 [_,⟨some g0,148,_,1,true⟩,_,_,_] [_] ?_;refine lm ?_;refine Cd ?_ ?_<;>intro hb4
    ·have htp:x.i.tp=false:=by have e:=hb4;simpa using e
     refine mV ?_;refine A3 ?_;refine Ld 3 9 [_,_,_,_,_,_,_,_,_] iK ?_;refine A1 ?_;refine Ld 3 20 [_,_,_,_,_,_,_,_,_,_,_,_,_,_,_,_] Dx ?_;refine F9 (f:=219) (A:=[⟨some g0,148,[az (some r1.g) 0 (o.length+1) r1.cap],1,true⟩,⟨(some r1.g),201,ah aQ (o++[mM x]),r1.n,true⟩]) (C:=[]) [RV x.i.t,xK x.f] [dV g0] [1,2] [] (fun r2=>[_,⟨some g0,148,[az r2.b 0 ((o.length+1)+1) r2.cap],1,true⟩,⟨r2.b,201,ah aQ ((o++[mM x])++[yY x.i.t x.f]),r2.n,true⟩,_,_]) rfl rfl rfl rfl rfl (Lp x.i.t x.f (o++[mM x]) (some r1.g) r1.n r1.cap (o.length+1) g0 (show(o.length+1)=(o++[mM x]).length by simp) r1.h r1.hn) (by decide) rfl rfl trivial rfl rfl (fun _=>rfl) (fun _=>OX rfl) (fun _=>rfl) (fun r2=>?_);refine A4 ?_;refine Ar (((i+1:Nat):Int)) ?_;refine A3 ?_;exact Nl ⟨⟨i+1,((o++[mM x])++[yY x.i.t x.f]),r2.b,r2.n,r2.cap⟩,hlt,by show((o++[mM x])++[yY x.i.t x.f])=aF (l.take (i+1));rw[<-rq hx,<-hI,qbX hfo hin htp];(try simp),Nat.le_trans (Nat.le_of_eq ((show((o.length+1)+1)=((o++[mM x])++[yY x.i.t x.f]).length by simp)).symm) r2.h,r2.hn⟩ (hμ:=(by show l.length-(i+1)<l.length-i;omega)) (hL:=(au [some 0,some 1,some 2] ⟨pR,⟨_,rfl,aI (by rw[show(((o++[mM x])++[yY x.i.t x.f])).length=((o.length+1)+1) by simp])⟩,pR,trivial⟩ rfl rfl))
    ·have htp:x.i.tp=true:=by have e:=hb4;simpa using e
     refine A4 ?_;refine Ar (((i+1:Nat):Int)) ?_;refine A3 ?_;exact Nl ⟨⟨i+1,(o++[mM x]),(some r1.g),r1.n,r1.cap⟩,hlt,by show(o++[mM x])=aF (l.take (i+1));rw[<-rq hx,<-hI,qbY hfo hin htp];(try simp),Nat.le_trans (Nat.le_of_eq ((show(o.length+1)=(o++[mM x]).length by simp)).symm) r1.h,r1.hn⟩ (hμ:=(by show l.length-(i+1)<l.length-i;omega)) (hL:=(au [some 0,some 1,some 2] ⟨pR,⟨_,rfl,aI (by rw[show((o++[mM x])).length=(o.length+1) by simp])⟩,pR,trivial⟩ rfl rfl))
 ·have hge:i=l.length:=(by have:=of_decide_eq_false hb1;omega);subst hge;obtain rfl:o=aF l:=by rw[hI,List.take_length]
  refine lX ?_;refine aH rfl (aj rfl) (fun w hL=>⟨⟨ob,oN,oc,h3⟩,?_,hL.pk [some 2]⟩);exact rfl
def nO(f:Ln):aP Tryz.prog 315 #[xK f] (.tuple #[rM (qx f),rM (qy f)]):=by
 refine xJ 14 Tryz.func315 fun w=>?_;refine A2 ?_;refine Bp 16 (fun g0=>?_);refine Al 12 G6 (fun g1=>?_);refine Al 12 G6 (fun g2=>?_);refine A3 ?_;refine Dp [] [0,1,2,3,5,6,7,8,4,9,10,11] ?_;refine A1 ?_;refine L4 0 0 ?_;refine A1 ?_;refine L4 0 4 ?_;refine A1 ?_;refine L4 0 8 ?_;refine A1 ?_;refine L4 0 12 ?_;refine Pc (jM f.x0 f.x1) ?_;refine Pc (jM f.y0 f.y1) ?_;refine Ss 1 ?_;refine Ss 2 ?_;refine A3 ?_;refine bF rfl (bu 1 rfl rfl XU (vs:=[_,_,_,_,_,_,_,_,_,_,_,_]) rfl rfl (Nat.le_of_ble_eq_true rfl) rfl) (bu 2 rfl rfl XU (vs:=[_,_,_,_,_,_,_,_,_,_,_,_]) rfl rfl (Nat.le_of_ble_eq_true rfl) rfl) (fun w hL=>⟨?_,hL.below⟩);exact rfl
def MJ(f g:Ln):aP Tryz.prog 312 #[.agg #[],xK f,xK g] (.bool (decide (f=g))):=by
 refine pB3 10 Tryz.func312 fun w=>?_;refine A2 ?_;refine Bo [] 0 (fun g=>[⟨some g,197,_,0,true⟩]) (fun g0=>?_);refine Bp 16 (fun g1=>?_);refine Bp 16 (fun g2=>?_);refine A5 ?_;refine X6 1 0 ?_;refine X6 2 0 ?_;refine gu rfl rfl rfl rfl qkI (qk5 _ _) ?_;refine A4 ?_;refine E0 ?_;exact rfl
def y5(f g:Ln)(t:Rl)(hf:jo f<=10000:=by omega)(hg:jo g<=10000:=by omega)(ht:gY t<=10000:=by omega):aP Tryz.prog 314 #[.agg #[],xK f,xK g,RV t] (.bool (pJ f g t)):=by
 have f1:=Vg hf;have f2:=Vh hf;have q1:=Vg hg;have q2:=Vh hg;refine pB4 33 Tryz.func314 fun w=>?_;refine A2 ?_;refine Bo [] 0 (fun g=>[⟨some g,197,_,0,true⟩]) (fun g0=>?_);refine Bp 16 (fun g1=>?_);refine Bp 16 (fun g2=>?_);refine Bp 9 (fun g3=>?_);refine A5 ?_;refine X6 1 0 ?_;refine Pc (nO f) ?_;refine A3 ?_;refine Al 12 G6 (fun g4=>?_);refine Al 12 G6 (fun g5=>?_);refine Ss 4 ?_;refine Ss 5 ?_;refine A4 ?_;refine X6 2 0 ?_;refine Pc (nO g) ?_;refine A3 ?_;refine Al 12 G6 (fun g6=>?_);refine Al 12 G6 (fun g7=>?_);refine Ss 6 ?_;refine Ss 7 ?_;refine A4 ?_;refine ut 4 0 ?_;refine ut 6 0 ?_;refine L9 3 0 ?_;refine Pc (yt (qx f) (qx g) t f1 q1 ht) ?_;refine A1 ?_;refine Rs 27 ?_ ?_<;>intro hb0
 ·have hsx:decide (vw (qw (qx f) (qx g)) t=⟨0,0,0⟩)=true:=hb0;refine ut 5 0 ?_;refine ut 7 0 ?_;refine L9 3 0 ?_;refine Pc (yt (qy f) (qy g) t f2 q2 ht) ?_;refine A5 ?_;refine E0 ?_;rw[<-W9,hsx,Bool.true_and]
 ·have hsx:decide (vw (qw (qx f) (qx g)) t=⟨0,0,0⟩)=false:=hb0;refine A9 ?_;refine E0 ?_;rw[<-W9,hsx,Bool.false_and]
def AX(f:Ln)(t:Rl)(hf:jo f<=10000:=by omega)(ht:gY t<=10000:=by omega):aP Tryz.prog 313 #[.agg #[],xK f,RV t] (xK (jg f t)):=by
 have f1:=Vg hf;have f2:=Vh hf;obtain⟨e1,e2,e3,e4⟩:=qfY f t;refine pB3 29 Tryz.func313 fun w=>?_;refine A2 ?_;refine Bo [] 0 (fun g=>[⟨some g,197,_,0,true⟩]) (fun g0=>?_);refine Bp 16 (fun g1=>?_);refine Bp 9 (fun g2=>?_);refine Al 16 z98 (fun g3=>?_);refine A4 ?_;refine X6 1 0 ?_;refine Pc (nO f) ?_;refine A3 ?_;refine Al 12 G6 (fun g4=>?_);refine Al 12 G6 (fun g5=>?_);refine Ss 4 ?_;refine Ss 5 ?_;refine A3 ?_;refine Dp [] [0,1,3,4,2,5,6,7] ?_;refine ut 4 0 ?_;refine L9 2 0 ?_;refine ut 5 0 ?_;refine L9 2 0 ?_;refine Pc (o5 (qx f) t) ?_;refine Pc (o5 (qy f) t) ?_;refine Ss 4 ?_;refine Ss 5 ?_;refine A5 ?_;refine L4 4 0 ?_;refine A1 ?_;refine L4 4 4 ?_;refine A1 ?_;refine L4 5 0 ?_;refine A1 ?_;refine L4 5 4 ?_;refine(Bu [(0,_),(1,_),(2,_),(3,_)]) (Z4) ?_;refine Ss 3 ?_;refine A3 ?_;refine qgV 3 ?_;show Ending.returned (xK ⟨(vw (qx f) t).c0,(vw (qx f) t).c1,(vw (qy f) t).c0,(vw (qy f) t).c1⟩)=_;rw[e1,e2,e3,e4]
def IA{S:Rl->Prop}{ρ:Rl->Int}(T:gU S ρ)(l:List PU)(lb:Option Nat)(lN lc:Nat)(hlc:l.length<=lc)(hln:l.length<=1000)(hsep:qH ρ l)(hE:Go.Via.Ends S l)(h0:0<l.length)(h20:l.length<20)(hz:∀u∈l,jV u.i<=1000∧jo u.f<=1000):dh Tryz.prog 135 [⟨lb,201,ah aQ l,lN,false⟩] [.iface 197 (.agg #[]),az lb 0 l.length lc] (SR (qL l).length) (fun z=> .tuple #[z.v,.int .i64 0]) (fun z=>[⟨z.b,201,ah aQ (qL l),z.n,true⟩]):=by
 refine⟨by kernel_rfl,fun w hL0=>?_⟩;have hal:= @BN l;refine YZ 219 Tryz.func135 hL0 ?_;refine A9 ?_;refine(Sc [0]) (Iy l lb lN lc hlc hln h0 h20 (U9 T hsep hE) (fun u hu=>Nat.le_trans (hz u hu).1 (by omega))) (fun z=>?_);obtain⟨sb,sN,sc,hsc⟩:=z;refine lX ?_;refine El (ι:={i:Nat // i<=l.length}) (fun⟨i,hi⟩=>([(0,.iface 197 (.agg #[])),(1,az sb 0 l.length sc),(17,bz (l.length)),(18,bz i)],[⟨lb,201,ah aQ l,lN,false⟩,⟨sb,201,ah aQ l,sN,true⟩],l.length-i)) ⟨0,Nat.zero_le _⟩ ?_ (hL:=eG.auto);rintro⟨i,hi⟩;(try dsimp only);refine A6 ?_;refine Cd ?_ ?_<;>intro hb1
 ·have hlt:i<l.length:=(by have:=of_decide_eq_true hb1;omega);obtain⟨x,hx⟩:∃x,l[i]? =some x:=⟨l[i],List.getElem?_eq_getElem hlt⟩;have hxz:=hz x (List.mem_of_getElem? hx);refine fD 1 rfl (aC.ne (by decide) (by omega)) (fun hbs=>?_);obtain⟨gs,hgs⟩:=Option.isSome_iff_exists.1 hbs;replace hgs:sb=some gs:=hgs;subst hgs;refine oO ?_;refine Di [] ?_;refine A3 ?_;refine Rs 23 ?_ ?_<;>intro hb2
  ·have hip:0<i:=by have e:=of_decide_eq_true hb2;omega
   obtain⟨u,hu⟩:∃u,l[i-1]? =some u:=⟨_,List.getElem?_eq_getElem (by omega)⟩;have huz:=hz u (List.mem_of_getElem? hu);have hap:=YS T hsep hE hip hu hx;refine A2 ?_;refine(Aq ((i:Int)-1)) (by exact(congrArg some (wi (by omega) (by omega) rfl))) ?_;refine ai 1 ((i-1)*36) kX jK rfl rfl rfl rfl rfl (by omega) (by omega) (aC.ne (by decide) (by omega)) (by show 0+Int.toNat _*36=_;omega) ?_;refine Fg ((i-1)*36) 0 ?_;refine aO (v:=kF u.i) 1 ((i-1)*36) _ rfl rfl rfl rfl iC (aC.sub hu 0 20 (by decide)) rfl (by decide) rfl ?_;refine A2 ?_;refine ai 1 ((i)*36) kX jK rfl rfl rfl rfl rfl (by omega) (by omega) (aC.ne (by decide) (by omega)) (by show 0+Int.toNat _*36=_;omega) ?_;refine Fg ((i)*36) 0 ?_;refine aO (v:=kF x.i) 1 ((i)*36) _ rfl rfl rfl rfl iC (aC.sub hx 0 20 (by decide)) rfl (by decide) rfl ?_;refine Pc (KQ u.i x.i) ?_;refine aT 35 (.bool true) rfl (congrArg Value.bool hap) ?_;refine A9 ?_;refine Ar (((i+1:Nat):Int)) ?_;refine A3 ?_;exact Nl ⟨i+1,hlt⟩ (hμ:=(by show l.length-(i+1)<l.length-i;omega)) (hL:=eG.auto)
  ·refine A21 ?_;refine Ar (((i+1:Nat):Int)) ?_;refine A3 ?_;exact Nl ⟨i+1,hlt⟩ (hμ:=(by show l.length-(i+1)<l.length-i;omega)) (hL:=eG.auto)
 ·have hge:i=l.length:=(by have:=of_decide_eq_false hb1;omega);subst hge;refine CB ?_;refine(Sc [1]) (Lr l sb sN sc hsc hln) (fun z=>?_);obtain⟨ab,aN,ac,hac⟩:=z;refine lX ?_;refine El (ι:={z:Nat×List PU×Option Nat×Nat×Nat // z.1<=(aF l).length∧qL l=nrm (aF l) z.1 z.2.1∧z.2.1.length<=z.1∧z.2.1.length<=z.2.2.2.2∧z.2.2.2.2*36<=z.2.2.2.1∧∀u∈z.2.1,jo u.f<=8000}) (fun⟨⟨i,o,ob,oN,oc⟩,hi,hI,hoi,h3,h4,hoz⟩=>([(0,.iface 197 (.agg #[])),(7,az ob 0 o.length oc),(8,az ab 0 (aF l).length ac),(41,az ab 0 (aF l).length ac),(42,bz ((aF l).length)),(43,bz i)],[⟨lb,201,ah aQ l,lN,false⟩,⟨sb,201,ah aQ l,sN,true⟩,⟨ab,201,ah aQ (aF l),aN,true⟩,⟨ob,201,ah aQ o,oN,true⟩],(aF l).length-i)) ⟨⟨0,[],none,0,0⟩,Nat.zero_le _,rfl,Nat.le_refl _,Nat.le_refl _,by simp,fun u hu=>by cases hu⟩ ?_ (hL:=(au [some 0,some 1,some 2,none] ⟨pR,pR,pR,⟨rfl,rfl,rfl⟩,trivial⟩ rfl rfl));rintro⟨⟨i,o,ob,oN,oc⟩,hi,hI,hoi,h3,h4,hoz⟩;(try dsimp only);replace hi:i<=(aF l).length:=hi;replace hI:qL l=nrm (aF l) i o:=hI;replace hoi:o.length<=i:=hoi;replace h3:o.length<=oc:=h3;replace h4:oc*36<=oN:=h4;replace hoz:∀u∈o,jo u.f<=8000:=hoz;refine A6 ?_;refine Cd ?_ ?_<;>intro hb3
  ·have hlt:i<(aF l).length:=(by have:=of_decide_eq_true hb3;omega);obtain⟨x,hx⟩:∃x,(aF l)[i]? =some x:=⟨_,List.getElem?_eq_getElem hlt⟩;obtain⟨hxv,hxf⟩:=KW hz x (List.mem_of_getElem? hx);have hxi1:=Nat.le_trans (kw x.i) hxv;refine fD 2 rfl (aC.ne (by decide) (by omega)) (fun hbs=>?_);obtain⟨ga,hga⟩:=Option.isSome_iff_exists.1 hbs;replace hga:ab=some ga:=hga;subst hga;refine rH 3 rfl (fun hbo=>?_);have hob:o.length=0∨∃g,ob=some g:=sS aC (by decide) hbo;refine A7 ?_;refine ai 2 ((i)*36) kX jK rfl rfl rfl rfl rfl (by omega) (by omega) (aC.ne (by decide) (by omega)) (by show 0+Int.toNat _*36=_;omega) ?_;refine aO (v:=U2 x) 2 ((i)*36) _ rfl rfl rfl rfl jK (aC.sub hx 0 36 (by decide)) rfl (by decide) rfl ?_;refine Al 36 qiT (fun g0=>?_);refine A1 ?_;refine Ss 4 ?_;refine A6 ?_;refine L9 4 0 ?_;refine Al 9 O5 (fun g1=>?_);refine Ss 5 ?_;refine A7 ?_;refine rG (nt:=219) (X:={z:Option PU // z=ui o x.i.f}) (fun⟨bp,hbp⟩=>[(0,.iface 197 (.agg #[])),(7,az ob 0 o.length oc),(8,az (some ga) 0 (aF l).length ac),(41,az (some ga) 0 (aF l).length ac),(42,bz ((aF l).length)),(43,bz i),(9,bz i),(10,dV g0),(11,dV g1),(12,.pointer (Xc ob o.length bp))]) (fun⟨bp,hbp⟩=>[⟨lb,201,ah aQ l,lN,false⟩,⟨sb,201,ah aQ l,sN,true⟩,⟨some ga,201,ah aQ (aF l),aN,true⟩,⟨ob,201,ah aQ o,oN,true⟩,⟨some g0,201,aQ x,36,true⟩,⟨some g1,38,iD x.i.f,9,true⟩]) ?_ ?_
   ·refine A8 ?_;refine Di [] ?_ (hc:=(oz [0,1,3,7,7,23,63,127,255,511,7,2047,4095,8191,16383,16383,49151,131071,262143,524287,1048575,2097151,4194303] (by kernel_rfl)));refine A3 ?_;refine Rs 55 ?_ ?_<;>intro hb4
    ·have hn0:0<o.length:=by have e:=of_decide_eq_true hb4;omega
     obtain⟨u,hu⟩:∃u,o[o.length-1]? =some u:=⟨_,List.getElem?_eq_getElem (by omega)⟩;obtain⟨go,hgo⟩:=hob.resolve_left (by omega);subst hgo;refine A2 ?_;refine(Aq ((o.length:Int)-1)) (by exact(congrArg some (wi (by omega) (by omega) rfl))) ?_;refine ai 3 ((o.length-1)*36) kX jK rfl rfl rfl rfl rfl (by omega) (by omega) (aC.ne (by decide) (by omega)) (by show 0+Int.toNat _*36=_;omega) ?_;refine Fg ((o.length-1)*36) 0 ?_;refine Fg ((o.length-1)*36) 9 ?_;refine aO (v:=RV u.i.t) 3 ((o.length-1)*36+9) _ rfl rfl rfl rfl iK (aC.sub hu 9 9 (by decide)) rfl (by decide) rfl ?_;refine L9 5 0 ?_;refine gu rfl rfl rfl rfl Mc (MB _ _) ?_;refine A2 ?_;refine Rs 66 ?_ ?_<;>intro hb5
     ·have hut:u.i.t=x.i.f:=of_decide_eq_true hb5;refine A2 ?_;refine(Aq ((o.length:Int)-1)) (by exact(congrArg some (wi (by omega) (by omega) rfl))) ?_;refine ai 3 ((o.length-1)*36) kX jK rfl rfl rfl rfl rfl (by omega) (by omega) (aC.ne (by decide) (by omega)) (by show 0+Int.toNat _*36=_;omega) ?_;refine Fg ((o.length-1)*36) 0 ?_;refine aO (v:=kF u.i) 3 ((o.length-1)*36) _ rfl rfl rfl rfl iC (aC.sub hu 0 20 (by decide)) rfl (by decide) rfl ?_;refine Pc (iM u.i) ?_;refine A4 ?_;refine Cd ?_ ?_<;>intro hb6
      ·have hui:fJ u.i=false:=by have e:=hb6;simpa using e
       refine A3 ?_;refine(Aq ((o.length:Int)-1)) (by exact(congrArg some (wi (by omega) (by omega) rfl))) ?_;refine ai 3 ((o.length-1)*36) kX jK rfl rfl rfl rfl rfl (by omega) (by omega) (aC.ne (by decide) (by omega)) (by show 0+Int.toNat _*36=_;omega) ?_;refine A3 ?_;exact Ni ⟨some u,(qfd hu hut hui).symm⟩ [0,1,2,3,4,5]
      ·have hui:fJ u.i=true:=by have e:=hb6;simpa using e
       refine A2 ?_;exact Ni ⟨none,(qfc hu hui).symm⟩ [0,1,2,3,4,5]
     ·have hut:u.i.t≠x.i.f:=of_decide_eq_false hb5;refine D6 ?_;exact Ni ⟨none,(qfb hu hut).symm⟩ [0,1,2,3,4,5]
    ·have hn0:¬0<o.length:=by have e:=of_decide_eq_false hb4;omega
     refine A25 ?_;exact Ni ⟨none,(YR hn0).symm⟩ [0,1,2,3,4,5]
   rintro⟨bp,hbp⟩;show At _ ⟨219,[(0,.iface 197 (.agg #[])),(7,az ob 0 o.length oc),(8,az (some ga) 0 (aF l).length ac),(41,az (some ga) 0 (aF l).length ac),(42,bz ((aF l).length)),(43,bz i),(9,bz i),(10,dV g0),(11,dV g1),(12,.pointer (Xc ob o.length bp))],[⟨lb,201,ah aQ l,lN,false⟩,⟨sb,201,ah aQ l,sN,true⟩,⟨some ga,201,ah aQ (aF l),aN,true⟩,⟨ob,201,ah aQ o,oN,true⟩,⟨some g0,201,aQ x,36,true⟩,⟨some g1,38,iD x.i.f,9,true⟩]⟩ _;rcases bp with _|b
   ·refine A4 ?_;refine yB 4 0 ?_;refine Pc (iM x.i) ?_;refine A4 ?_;refine Cd ?_ ?_<;>intro hb6
    ·have hxi:fJ x.i=false:=by have e:=hb6;simpa using e
     refine rG (nt:=219) (X:={u:Unit // kL o (o9 (aF l) i) x (aF l)[i+1]? =o++[⟨⟨x.i.f,x.i.t,AU o (o9 (aF l) i) x,x.i.tp⟩,x.f⟩]}) (fun⟨_,hst⟩=>[(0,.iface 197 (.agg #[])),(7,az ob 0 o.length oc),(8,az (some ga) 0 (aF l).length ac),(41,az (some ga) 0 (aF l).length ac),(42,bz ((aF l).length)),(43,bz i),(9,bz i),(10,dV g0),(11,dV g1),(12,.pointer (Xc ob o.length none))]) (fun⟨_,hst⟩=>[⟨lb,201,ah aQ l,lN,false⟩,⟨sb,201,ah aQ l,sN,true⟩,⟨some ga,201,ah aQ (aF l),aN,true⟩,⟨ob,201,ah aQ o,oN,true⟩,⟨some g0,201,aQ x,36,true⟩,⟨some g1,38,iD x.i.f,9,true⟩]) ?_ ?_
     ·refine A1 ?_;refine Di [] ?_ (hc:=(oz [0,1,3,7,15,31,63,127,255,511,1023,2047,2047,6143,14335,30719,2047,67583,4095,266239,790527,2097151,4194303] (by kernel_rfl)));refine A1 ?_;refine BV qff rfl rfl rfl rfl rfl ?_;refine A26 ?_;exact Ni ⟨(),qlc hxi hbp.symm⟩ [0,1,2,3,4,5]
     rintro⟨_,hst⟩;show At _ ⟨219,[(0,.iface 197 (.agg #[])),(7,az ob 0 o.length oc),(8,az (some ga) 0 (aF l).length ac),(41,az (some ga) 0 (aF l).length ac),(42,bz ((aF l).length)),(43,bz i),(9,bz i),(10,dV g0),(11,dV g1),(12,.pointer (Xc ob o.length none))],[⟨lb,201,ah aQ l,lN,false⟩,⟨sb,201,ah aQ l,sN,true⟩,⟨some ga,201,ah aQ (aF l),aN,true⟩,⟨ob,201,ah aQ o,oN,true⟩,⟨some g0,201,aQ x,36,true⟩,⟨some g1,38,iD x.i.f,9,true⟩]⟩ _;refine rG (nt:=219) (X:={z:Bool // AU o (o9 (aF l) i) x=z}) (fun⟨z,hz⟩=>[(0,.iface 197 (.agg #[])),(7,az ob 0 o.length oc),(8,az (some ga) 0 (aF l).length ac),(41,az (some ga) 0 (aF l).length ac),(42,bz ((aF l).length)),(43,bz i),(9,bz i),(10,dV g0),(11,dV g1),(12,.pointer (Xc ob o.length none))]) (fun⟨z,hz⟩=>[⟨lb,201,ah aQ l,lN,false⟩,⟨sb,201,ah aQ l,sN,true⟩,⟨some ga,201,ah aQ (aF l),aN,true⟩,⟨ob,201,ah aQ o,oN,true⟩,⟨some g0,201,aQ ⟨⟨x.i.f,x.i.t,z,x.i.tp⟩,x.f⟩,36,true⟩,⟨some g1,38,iD x.i.f,9,true⟩]) ?_ ?_
     ·refine A1 ?_;refine Di [] ?_ (hc:=(oz [0,1,3,7,7,23,63,127,255,511,1023,2047,4095,4095,12287,32767,65535,131071,262143,4095,1048575,2097151,4194303,8388607,8388607,33554431,67108863,134217727] (by kernel_rfl)));refine A3 ?_;refine Rs 131 ?_ ?_<;>intro hb8
      ·have hip:0<i:=by have e:=of_decide_eq_true hb8;omega
       obtain⟨p,hp⟩:∃p,(aF l)[i-1]? =some p:=⟨_,List.getElem?_eq_getElem (by omega)⟩;have hpr:=TA hip hp;refine A2 ?_;refine(Aq ((i:Int)-1)) (by exact(congrArg some (wi (by omega) (by omega) rfl))) ?_;refine ai 2 ((i-1)*36) kX jK rfl rfl rfl rfl rfl (by omega) (by omega) (aC.ne (by decide) (by omega)) (by show 0+Int.toNat _*36=_;omega) ?_;refine Fg ((i-1)*36) 0 ?_;refine aO (v:=kF p.i) 2 ((i-1)*36) _ rfl rfl rfl rfl iC (aC.sub hp 0 20 (by decide)) rfl (by decide) rfl ?_;refine Pc (iM p.i) ?_;refine A2 ?_;refine Rs 140 ?_ ?_<;>intro hb9
       ·have hpi:fJ p.i=true:=hb9;refine A2 ?_;refine(Aq ((i:Int)-1)) (by exact(congrArg some (wi (by omega) (by omega) rfl))) ?_;refine ai 2 ((i-1)*36) kX jK rfl rfl rfl rfl rfl (by omega) (by omega) (aC.ne (by decide) (by omega)) (by show 0+Int.toNat _*36=_;omega) ?_;refine Fg ((i-1)*36) 0 ?_;refine Fg ((i-1)*36) 0 ?_;refine aO (v:=RV p.i.f) 2 ((i-1)*36) _ rfl rfl rfl rfl iK (aC.sub hp 0 9 (by decide)) rfl (by decide) rfl ?_;refine L9 5 0 ?_;refine gu rfl rfl rfl rfl Mc (MB _ _) ?_;refine A2 ?_;refine Rs 151 ?_ ?_<;>intro hb10
        ·have hpf:p.i.f=x.i.f:=of_decide_eq_true hb10;refine A1 ?_;refine L9 5 0 ?_;refine(Sd [3]) (CZ o ob oN oc h3 (by omega) x.i.f) ?_;refine A4 ?_;refine Cd ?_ ?_<;>intro hb11
         ·have hhd:qh o x.i.f=false:=by have e:=hb11;simpa using e
          refine A3 ?_;refine Ss 4 ?_;refine A2 ?_;exact Ni ⟨false,qb3 hpr hpi hpf hhd⟩ [0,1,2,3,4,5]
         ·have hhd:qh o x.i.f=true:=by have e:=hb11;simpa using e
          refine A2 ?_;exact Ni ⟨x.i.fo,GI hpr (fun e=>by rw[hhd] at e;cases e.2.2)⟩ [0,1,2,3,4,5]
        ·have hpf:p.i.f≠x.i.f:=of_decide_eq_false hb10;refine lm ?_;exact Ni ⟨x.i.fo,GI hpr (fun e=>hpf e.2.1)⟩ [0,1,2,3,4,5]
       ·have hpi:fJ p.i=false:=hb9;refine A21 ?_;exact Ni ⟨x.i.fo,GI hpr (fun e=>by rw[hpi] at e;cases e.1)⟩ [0,1,2,3,4,5]
      ·have hip:i=0:=by have e:=of_decide_eq_false hb8;omega
       refine A30 ?_;exact Ni ⟨x.i.fo,qfZ (by rw[hip];rfl)⟩ [0,1,2,3,4,5]
     rintro⟨z,hz⟩;show At _ ⟨219,[(0,.iface 197 (.agg #[])),(7,az ob 0 o.length oc),(8,az (some ga) 0 (aF l).length ac),(41,az (some ga) 0 (aF l).length ac),(42,bz ((aF l).length)),(43,bz i),(9,bz i),(10,dV g0),(11,dV g1),(12,.pointer (Xc ob o.length none))],[⟨lb,201,ah aQ l,lN,false⟩,⟨sb,201,ah aQ l,sN,true⟩,⟨some ga,201,ah aQ (aF l),aN,true⟩,⟨ob,201,ah aQ o,oN,true⟩,⟨some g0,201,aQ ⟨⟨x.i.f,x.i.t,z,x.i.tp⟩,x.f⟩,36,true⟩,⟨some g1,38,iD x.i.f,9,true⟩]⟩ _;refine A2 ?_;refine L36 4 0 ?_;refine Kr 160 (U2 ⟨⟨x.i.f,x.i.t,z,x.i.tp⟩,x.f⟩) ?_;refine(Bl 36 [(0,_)]) (rF) (fun g2=>?_);refine(Qa (s:=36) (len:=o.length) (n2:=1) 3 6 (fun r=>[_,_,_,⟨some r.g,201,ah aQ o++aQ (⟨⟨x.i.f,x.i.t,z,x.i.tp⟩,x.f⟩),r.n,true⟩,_,_,_]) kX Ae) (aC.length o) h3 h4 (aC.one (⟨⟨x.i.f,x.i.t,z,x.i.tp⟩,x.f⟩)) (fun r=>?_);refine A6 ?_;refine Ar (((i+1:Nat):Int)) ?_;refine A3 ?_;exact Nl ⟨⟨i+1,o++[⟨⟨x.i.f,x.i.t,z,x.i.tp⟩,x.f⟩],some r.g,r.n,r.cap⟩,hlt,by rw[hI,sU hx,hst,hz],by rw[List.length_append];exact Nat.succ_le_succ hoi,by rw[List.length_append];exact r.h,r.hn,Qk hoz (by show jo x.f<=_;omega)⟩ (hμ:=(by show(aF l).length-(i+1)<(aF l).length-i;omega)) (ht:=⟨rfl,(aB rfl (by rw[List.length_append];rfl)),rfl,rfl,rfl,rfl,trivial⟩) (hL:=(au [some 0,some 1,some 2,some 3] ⟨pR,pR,pR,⟨_,rfl,aI (by rw[bH])⟩,trivial⟩ rfl rfl))
    ·have hxi:fJ x.i=true:=by have e:=hb6;simpa using e
     refine A1 ?_;have hst:kL o (o9 (aF l) i) x (aF l)[i+1]? =zk o (aF l)[i+1]? x:=qlf hxi hbp.symm;refine Di [] ?_;refine A1 ?_;refine BV qff rfl rfl rfl rfl rfl ?_;refine A18 ?_;refine rG (nt:=219) (X:={z:Bool // zk o (aF l)[i+1]? x=if z=true then o else o++[⟨x.i,jg x.f x.i.f⟩]}) (fun⟨z,hz0⟩=>[(0,.iface 197 (.agg #[])),(7,az ob 0 o.length oc),(8,az (some ga) 0 (aF l).length ac),(41,az (some ga) 0 (aF l).length ac),(42,bz ((aF l).length)),(43,bz i),(9,bz i),(10,dV g0),(11,dV g1),(12,.pointer (Xc ob o.length none)),(184,.bool z)]) (fun⟨z,hz0⟩=>[⟨lb,201,ah aQ l,lN,false⟩,⟨sb,201,ah aQ l,sN,true⟩,⟨some ga,201,ah aQ (aF l),aN,true⟩,⟨ob,201,ah aQ o,oN,true⟩,⟨some g0,201,aQ x,36,true⟩,⟨some g1,38,iD x.i.f,9,true⟩]) ?_ ?_
     ·refine Di [] ?_ (hc:=(oz (0::1::0::4::15::31::63::63::191::511::1023::2047::4095::63::16383::32767::65535::131071::131071::131071::655359::1966079::4063231::8257535::131071::16908287::131071::262143::134479871::402915327::1073741823::2147483647::4294967295::[]) (by kernel_rfl)));refine A1 ?_;refine Ar (((i+1:Nat):Int)) ?_;refine A4 ?_;refine Rs 190 ?_ ?_<;>intro hb7
      ·have hjt:i+1<(aF l).length:=by have e:=of_decide_eq_true hb7;omega
       obtain⟨n,hn⟩:∃n,(aF l)[i+1]? =some n:=⟨_,List.getElem?_eq_getElem hjt⟩;obtain⟨hnv,hnf_⟩:=KW hz n (List.mem_of_getElem? hn);refine A2 ?_;refine Ar (((i+1:Nat):Int)) ?_;refine ai 2 ((i+1)*36) kX jK rfl rfl rfl rfl rfl (by omega) (by omega) (aC.ne (by decide) (by omega)) (by show 0+Int.toNat _*36=_;omega) ?_;refine Fg ((i+1)*36) 0 ?_;refine Fg ((i+1)*36) 0 ?_;refine aO (v:=RV n.i.f) 2 ((i+1)*36) _ rfl rfl rfl rfl iK (aC.sub hn 0 9 (by decide)) rfl (by decide) rfl ?_;refine L9 5 0 ?_;refine gu rfl rfl rfl rfl Mc (MB _ _) ?_;refine A2 ?_;refine Rs 201 ?_ ?_<;>intro hb8
       ·have hnf:n.i.f=x.i.f:=of_decide_eq_true hb8;refine A3 ?_;refine Ar (((i+1:Nat):Int)) ?_;refine ai 2 ((i+1)*36) kX jK rfl rfl rfl rfl rfl (by omega) (by omega) (aC.ne (by decide) (by omega)) (by show 0+Int.toNat _*36=_;omega) ?_;refine Fg ((i+1)*36) 20 ?_;refine aO (v:=xK n.f) 2 ((i+1)*36+20) _ rfl rfl rfl rfl Dx (aC.sub hn 20 16 (by decide)) rfl (by decide) rfl ?_;refine A1 ?_;refine X6 4 20 ?_;refine L9 5 0 ?_;refine uf rfl rfl rfl _ (fun _=>rfl) ?_;refine wF rfl rfl rfl (fun _=>by kernel_rfl) ?_;refine A1 ?_;refine Bq 197 (.agg #[]) (.agg #[]) [_,_,_] rfl rfl rfl (fun _=>by kernel_rfl) rfl (y5 n.f x.f x.i.f) ?_;refine A4 ?_;exact Ni ⟨pJ n.f x.f x.i.f,qjy hn hnf⟩ [0,1,2,3,4,5]
       ·have hnf:n.i.f≠x.i.f:=of_decide_eq_false hb8;refine A18 ?_;exact Ni ⟨false,by rw[Vj hn (fun e=>hnf e.1)];rfl⟩ [0,1,2,3,4,5]
      ·have hn:(aF l)[i+1]? =none:=List.getElem?_eq_none (by have e:=of_decide_eq_false hb7;omega);refine A29 ?_;exact Ni ⟨false,by rw[qf0 hn];rfl⟩ [0,1,2,3,4,5]
     rintro⟨z,hz0⟩;show At _ ⟨219,[(0,.iface 197 (.agg #[])),(7,az ob 0 o.length oc),(8,az (some ga) 0 (aF l).length ac),(41,az (some ga) 0 (aF l).length ac),(42,bz ((aF l).length)),(43,bz i),(9,bz i),(10,dV g0),(11,dV g1),(12,.pointer (Xc ob o.length none)),(184,.bool z)],[⟨lb,201,ah aQ l,lN,false⟩,⟨sb,201,ah aQ l,sN,true⟩,⟨some ga,201,ah aQ (aF l),aN,true⟩,⟨ob,201,ah aQ o,oN,true⟩,⟨some g0,201,aQ x,36,true⟩,⟨some g1,38,iD x.i.f,9,true⟩]⟩ _;refine Cd ?_ ?_<;>intro hb8
     ·have hzv:z=true:=hb8;refine A5 ?_;refine Ar (((i+1:Nat):Int)) ?_;refine A3 ?_;exact Nl ⟨⟨i+1,o,ob,oN,oc⟩,hlt,by rw[hI,sU hx,hst,hz0,if_pos hzv],Nat.le_succ_of_le hoi,h3,h4,hoz⟩ (hμ:=(by show(aF l).length-(i+1)<(aF l).length-i;omega)) (hL:=eG.auto)
     ·have hzv:z=false:=hb8;refine A4 ?_;refine X6 4 20 ?_;refine L9 5 0 ?_;refine Bq 197 (.agg #[]) (.agg #[]) [_,_] rfl rfl rfl (fun _=>by kernel_rfl) rfl (AX x.f x.i.f) ?_;refine A1 ?_;refine Ss 4 ?_;refine A4 ?_;refine L36 4 0 ?_;refine Kr 87 (U2 ⟨x.i,jg x.f x.i.f⟩) ?_;refine(Bl 36 [(0,_)]) (rF) (fun g2=>?_);refine(Qa (s:=36) (len:=o.length) (n2:=1) 3 6 (fun r=>[_,_,_,⟨some r.g,201,ah aQ o++aQ (⟨x.i,jg x.f x.i.f⟩),r.n,true⟩,_,_,_]) kX Ae) (aC.length o) h3 h4 (aC.one (⟨x.i,jg x.f x.i.f⟩)) (fun r=>?_);refine A6 ?_;refine Ar (((i+1:Nat):Int)) ?_;refine A3 ?_;exact Nl ⟨⟨i+1,o++[⟨x.i,jg x.f x.i.f⟩],some r.g,r.n,r.cap⟩,hlt,by rw[hI,sU hx,hst,hz0,if_neg (by rw[hzv];decide)],by rw[List.length_append];exact Nat.succ_le_succ hoi,by rw[List.length_append];exact r.h,r.hn,Qk hoz (Xd hxf hxi1)⟩ (hμ:=(by show(aF l).length-(i+1)<(aF l).length-i;omega)) (ht:=⟨rfl,(aB rfl (by rw[List.length_append];rfl)),rfl,rfl,rfl,rfl,trivial⟩) (hL:=(au [some 0,some 1,some 2,some 3] ⟨pR,pR,pR,⟨_,rfl,aI (by rw[bH])⟩,trivial⟩ rfl rfl))
   ·obtain⟨hbl,hbt,hbi⟩:=qbZ hbp.symm;have hbm:=List.mem_of_getElem? hbl;have hbz:=hoz b hbm;have hon:0<o.length:=List.length_pos_of_mem hbm;obtain⟨go,hgo⟩:=hob.resolve_left (by omega);subst hgo;refine A4 ?_;refine yB 4 0 ?_;refine Pc (iM x.i) ?_;refine A4 ?_;refine Cd ?_ ?_<;>intro hb6
    ·have hxi:fJ x.i=false:=by have e:=hb6;simpa using e
     refine rG (nt:=219) (X:={u:Unit // kL o (o9 (aF l) i) x (aF l)[i+1]? =o++[⟨⟨x.i.f,x.i.t,AU o (o9 (aF l) i) x,x.i.tp⟩,x.f⟩]}) (fun⟨_,hst⟩=>[(0,.iface 197 (.agg #[])),(7,az (some go) 0 o.length oc),(8,az (some ga) 0 (aF l).length ac),(41,az (some ga) 0 (aF l).length ac),(42,bz ((aF l).length)),(43,bz i),(9,bz i),(10,dV g0),(11,dV g1),(12,.pointer (Xc (some go) o.length (some b)))]) (fun⟨_,hst⟩=>[⟨lb,201,ah aQ l,lN,false⟩,⟨sb,201,ah aQ l,sN,true⟩,⟨some ga,201,ah aQ (aF l),aN,true⟩,⟨some go,201,ah aQ o,oN,true⟩,⟨some g0,201,aQ x,36,true⟩,⟨some g1,38,iD x.i.f,9,true⟩]) ?_ ?_
     ·refine A1 ?_;refine Di [] ?_ (hc:=(oz [0,1,3,7,15,31,63,127,255,511,1023,2047,2047,6143,14335,30719,2047,67583,4095,266239,790527,2097151,4194303] (by kernel_rfl)));refine A1 ?_;refine BV qff rfl rfl rfl rfl rfl ?_;refine A3 ?_;refine Fg ((o.length-1)*36) 0 ?_;refine Fg ((o.length-1)*36) 19 ?_;refine aO (v:= .bool b.i.tp) 3 ((o.length-1)*36+19) _ rfl rfl rfl rfl ti4 (aC.sub hbl 19 1 (by decide)) rfl (by decide) rfl ?_;refine A3 ?_;refine Rs 105 ?_ ?_<;>intro hb7
      ·have htp:b.i.tp=false:=by have e:=hb7;simpa using e
       refine A3 ?_;refine Fg ((o.length-1)*36) 20 ?_;refine aO (v:=xK b.f) 3 ((o.length-1)*36+20) _ rfl rfl rfl rfl Dx (aC.sub hbl 20 16 (by decide)) rfl (by decide) rfl ?_;refine A1 ?_;refine X6 4 20 ?_;refine uf rfl rfl rfl _ (fun _=>rfl) ?_;refine wF rfl rfl rfl (fun _=>by kernel_rfl) ?_;refine A1 ?_;refine Bq 197 (.agg #[]) (.agg #[]) [_,_] rfl rfl rfl (fun _=>by kernel_rfl) rfl (MJ b.f x.f) ?_;refine A3 ?_;refine Cd ?_ ?_<;>intro hb8
       ·have hbf:b.f=x.f:=of_decide_eq_true hb8;refine A6 ?_;refine L9 4 9 ?_;refine A1 ?_;refine Fg ((o.length-1)*36) 0 ?_;refine Fg ((o.length-1)*36) 9 ?_;refine pO rfl 3 ((o.length-1)*36+9) [_,_,_,_,_,_] (ah aQ (o.set (o.length-1) ⟨⟨b.i.f,x.i.t,b.i.fo,b.i.tp⟩,b.f⟩)) rfl rfl rfl rfl iK rfl (by rw[Nat.ble_eq,aC.length];show(o.length-1)*36+9+9<=(o).length*36;(try simp only[List.length_set]);omega) rfl (aC.setf hbl rfl (by decide)) rfl ?_;refine A1 ?_;refine Fg ((o.length-1)*36) 0 ?_;refine Fg ((o.length-1)*36) 19 ?_;refine pO rfl 3 ((o.length-1)*36+19) [_,_,_,_,_,_] (ah aQ ((o.set (o.length-1) ⟨⟨b.i.f,x.i.t,b.i.fo,b.i.tp⟩,b.f⟩).set (o.length-1) ⟨⟨b.i.f,x.i.t,b.i.fo,true⟩,b.f⟩)) rfl rfl rfl rfl ti4 rfl (by rw[Nat.ble_eq,aC.length];show(o.length-1)*36+19+1<=(o.set (o.length-1) ⟨⟨b.i.f,x.i.t,b.i.fo,b.i.tp⟩,b.f⟩).length*36;(try simp only[List.length_set]);omega) rfl (aC.setf (show(o.set (o.length-1) ⟨⟨b.i.f,x.i.t,b.i.fo,b.i.tp⟩,b.f⟩)[o.length-1]? =some ⟨⟨b.i.f,x.i.t,b.i.fo,b.i.tp⟩,b.f⟩ by rw[List.getElem?_set_self (by omega)]) rfl (by decide)) rfl ?_;refine A4 ?_;refine OM rfl ?_;refine A3 ?_;refine Ar (((i+1:Nat):Int)) ?_;refine A3 ?_;exact Nl ⟨⟨i+1,(o.set (o.length-1) ⟨⟨b.i.f,x.i.t,b.i.fo,b.i.tp⟩,b.f⟩).set (o.length-1) ⟨⟨b.i.f,x.i.t,b.i.fo,true⟩,b.f⟩,some go,oN,oc⟩,hlt,by rw[List.set_set,Tz hbl,<-qlb (prev:=o9 (aF l) i) (next:=(aF l)[i+1]?) hxi hbp.symm htp hbf,<-sU hx];exact hI,by simp only[List.length_set];omega,by simpa using h3,h4,Vk (Vk hoz hbz) hbz⟩ (hμ:=(by show(aF l).length-(i+1)<(aF l).length-i;omega)) (ht:=⟨rfl,(aB rfl (by simp only[List.length_set])),rfl,rfl,rfl,rfl,trivial⟩) (hL:=eG.auto)
       ·have hbf:b.f≠x.f:=of_decide_eq_false hb8;refine A2 ?_;exact Ni ⟨(),qjx hxi hbp.symm (fun e=>hbf e.2)⟩ [0,1,2,3,4,5]
      ·have htp:b.i.tp=true:=by have e:=hb7;simpa using e
       refine MW ?_;exact Ni ⟨(),qjx hxi hbp.symm (fun e=>by rw[htp] at e;cases e.1)⟩ [0,1,2,3,4,5]
     rintro⟨_,hst⟩;show At _ ⟨219,[(0,.iface 197 (.agg #[])),(7,az (some go) 0 o.length oc),(8,az (some ga) 0 (aF l).length ac),(41,az (some ga) 0 (aF l).length ac),(42,bz ((aF l).length)),(43,bz i),(9,bz i),(10,dV g0),(11,dV g1),(12,.pointer (Xc (some go) o.length (some b)))],[⟨lb,201,ah aQ l,lN,false⟩,⟨sb,201,ah aQ l,sN,true⟩,⟨some ga,201,ah aQ (aF l),aN,true⟩,⟨some go,201,ah aQ o,oN,true⟩,⟨some g0,201,aQ x,36,true⟩,⟨some g1,38,iD x.i.f,9,true⟩]⟩ _;refine rG (nt:=219) (X:={z:Bool // AU o (o9 (aF l) i) x=z}) (fun⟨z,hz⟩=>[(0,.iface 197 (.agg #[])),(7,az (some go) 0 o.length oc),(8,az (some ga) 0 (aF l).length ac),(41,az (some ga) 0 (aF l).length ac),(42,bz ((aF l).length)),(43,bz i),(9,bz i),(10,dV g0),(11,dV g1),(12,.pointer (Xc (some go) o.length (some b)))]) (fun⟨z,hz⟩=>[⟨lb,201,ah aQ l,lN,false⟩,⟨sb,201,ah aQ l,sN,true⟩,⟨some ga,201,ah aQ (aF l),aN,true⟩,⟨some go,201,ah aQ o,oN,true⟩,⟨some g0,201,aQ ⟨⟨x.i.f,x.i.t,z,x.i.tp⟩,x.f⟩,36,true⟩,⟨some g1,38,iD x.i.f,9,true⟩]) ?_ ?_
     ·refine A1 ?_;refine Di [] ?_ (hc:=(oz [0,1,3,7,7,23,63,127,255,511,1023,2047,4095,4095,12287,32767,65535,131071,262143,4095,1048575,2097151,4194303,8388607,8388607,33554431,67108863,134217727] (by kernel_rfl)));refine A3 ?_;refine Rs 131 ?_ ?_<;>intro hb8
      ·have hip:0<i:=by have e:=of_decide_eq_true hb8;omega
       obtain⟨p,hp⟩:∃p,(aF l)[i-1]? =some p:=⟨_,List.getElem?_eq_getElem (by omega)⟩;have hpr:=TA hip hp;refine A2 ?_;refine(Aq ((i:Int)-1)) (by exact(congrArg some (wi (by omega) (by omega) rfl))) ?_;refine ai 2 ((i-1)*36) kX jK rfl rfl rfl rfl rfl (by omega) (by omega) (aC.ne (by decide) (by omega)) (by show 0+Int.toNat _*36=_;omega) ?_;refine Fg ((i-1)*36) 0 ?_;refine aO (v:=kF p.i) 2 ((i-1)*36) _ rfl rfl rfl rfl iC (aC.sub hp 0 20 (by decide)) rfl (by decide) rfl ?_;refine Pc (iM p.i) ?_;refine A2 ?_;refine Rs 140 ?_ ?_<;>intro hb9
       ·have hpi:fJ p.i=true:=hb9;refine A2 ?_;refine(Aq ((i:Int)-1)) (by exact(congrArg some (wi (by omega) (by omega) rfl))) ?_;refine ai 2 ((i-1)*36) kX jK rfl rfl rfl rfl rfl (by omega) (by omega) (aC.ne (by decide) (by omega)) (by show 0+Int.toNat _*36=_;omega) ?_;refine Fg ((i-1)*36) 0 ?_;refine Fg ((i-1)*36) 0 ?_;refine aO (v:=RV p.i.f) 2 ((i-1)*36) _ rfl rfl rfl rfl iK (aC.sub hp 0 9 (by decide)) rfl (by decide) rfl ?_;refine L9 5 0 ?_;refine gu rfl rfl rfl rfl Mc (MB _ _) ?_;refine A2 ?_;refine Rs 151 ?_ ?_<;>intro hb10
        ·have hpf:p.i.f=x.i.f:=of_decide_eq_true hb10;refine A1 ?_;refine L9 5 0 ?_;refine(Sd [3]) (CZ o (some go) oN oc h3 (by omega) x.i.f) ?_;refine A4 ?_;refine Cd ?_ ?_<;>intro hb11
         ·have hhd:qh o x.i.f=false:=by have e:=hb11;simpa using e
          refine A3 ?_;refine Ss 4 ?_;refine A2 ?_;exact Ni ⟨false,qb3 hpr hpi hpf hhd⟩ [0,1,2,3,4,5]
         ·have hhd:qh o x.i.f=true:=by have e:=hb11;simpa using e
          refine A2 ?_;exact Ni ⟨x.i.fo,GI hpr (fun e=>by rw[hhd] at e;cases e.2.2)⟩ [0,1,2,3,4,5]
        ·have hpf:p.i.f≠x.i.f:=of_decide_eq_false hb10;refine lm ?_;exact Ni ⟨x.i.fo,GI hpr (fun e=>hpf e.2.1)⟩ [0,1,2,3,4,5]
       ·have hpi:fJ p.i=false:=hb9;refine A21 ?_;exact Ni ⟨x.i.fo,GI hpr (fun e=>by rw[hpi] at e;cases e.1)⟩ [0,1,2,3,4,5]
      ·have hip:i=0:=by have e:=of_decide_eq_false hb8;omega
       refine A30 ?_;exact Ni ⟨x.i.fo,qfZ (by rw[hip];rfl)⟩ [0,1,2,3,4,5]
     rintro⟨z,hz⟩;show At _ ⟨219,[(0,.iface 197 (.agg #[])),(7,az (some go) 0 o.length oc),(8,az (some ga) 0 (aF l).length ac),(41,az (some ga) 0 (aF l).length ac),(42,bz ((aF l).length)),(43,bz i),(9,bz i),(10,dV g0),(11,dV g1),(12,.pointer (Xc (some go) o.length (some b)))],[⟨lb,201,ah aQ l,lN,false⟩,⟨sb,201,ah aQ l,sN,true⟩,⟨some ga,201,ah aQ (aF l),aN,true⟩,⟨some go,201,ah aQ o,oN,true⟩,⟨some g0,201,aQ ⟨⟨x.i.f,x.i.t,z,x.i.tp⟩,x.f⟩,36,true⟩,⟨some g1,38,iD x.i.f,9,true⟩]⟩ _;refine A2 ?_;refine L36 4 0 ?_;refine Kr 160 (U2 ⟨⟨x.i.f,x.i.t,z,x.i.tp⟩,x.f⟩) ?_;refine(Bl 36 [(0,_)]) (rF) (fun g2=>?_);refine(Qa (s:=36) (len:=o.length) (n2:=1) 3 6 (fun r=>[_,_,_,⟨some r.g,201,ah aQ o++aQ (⟨⟨x.i.f,x.i.t,z,x.i.tp⟩,x.f⟩),r.n,true⟩,_,_,_]) kX Ae) (aC.length o) h3 h4 (aC.one (⟨⟨x.i.f,x.i.t,z,x.i.tp⟩,x.f⟩)) (fun r=>?_);refine A6 ?_;refine Ar (((i+1:Nat):Int)) ?_;refine A3 ?_;exact Nl ⟨⟨i+1,o++[⟨⟨x.i.f,x.i.t,z,x.i.tp⟩,x.f⟩],some r.g,r.n,r.cap⟩,hlt,by rw[hI,sU hx,hst,hz],by rw[List.length_append];exact Nat.succ_le_succ hoi,by rw[List.length_append];exact r.h,r.hn,Qk hoz (by show jo x.f<=_;omega)⟩ (hμ:=(by show(aF l).length-(i+1)<(aF l).length-i;omega)) (ht:=⟨rfl,(aB rfl (by rw[List.length_append];rfl)),rfl,rfl,rfl,rfl,trivial⟩) (hL:=(au [some 0,some 1,some 2,some 3] ⟨pR,pR,pR,⟨_,rfl,aI (by rw[bH])⟩,trivial⟩ rfl rfl))
    ·have hxi:fJ x.i=true:=by have e:=hb6;simpa using e
     refine A1 ?_;refine Di [] ?_;refine A1 ?_;refine BV qff rfl rfl rfl rfl rfl ?_;refine A4 ?_;refine Fg ((o.length-1)*36) 20 ?_;refine aO (v:=xK b.f) 3 ((o.length-1)*36+20) _ rfl rfl rfl rfl Dx (aC.sub hbl 20 16 (by decide)) rfl (by decide) rfl ?_;refine A1 ?_;refine X6 4 20 ?_;refine L9 5 0 ?_;refine uf rfl rfl rfl _ (fun _=>rfl) ?_;refine wF rfl rfl rfl (fun _=>by kernel_rfl) ?_;refine A1 ?_;refine Bq 197 (.agg #[]) (.agg #[]) [_,_,_] rfl rfl rfl (fun _=>by kernel_rfl) rfl (y5 b.f x.f x.i.f) ?_;refine A4 ?_;refine Cd ?_ ?_<;>intro hb7
     ·have hsm:pJ b.f x.f x.i.f=true:=hb7;refine A3 ?_;refine Fg ((o.length-1)*36) 0 ?_;refine Fg ((o.length-1)*36) 19 ?_;refine pO rfl 3 ((o.length-1)*36+19) [_,_,_,_,_,_] (ah aQ (o.set (o.length-1) ⟨⟨b.i.f,b.i.t,b.i.fo,false⟩,b.f⟩)) rfl rfl rfl rfl ti4 rfl (by rw[Nat.ble_eq,aC.length];show(o.length-1)*36+19+1<=(o).length*36;(try simp only[List.length_set]);omega) rfl (aC.setf hbl rfl (by decide)) rfl ?_;refine A5 ?_;refine Ar (((i+1:Nat):Int)) ?_;refine A3 ?_;exact Nl ⟨⟨i+1,o.set (o.length-1) ⟨⟨b.i.f,b.i.t,b.i.fo,false⟩,b.f⟩,some go,oN,oc⟩,hlt,by rw[Tz hbl,<-qld (prev:=o9 (aF l) i) (next:=(aF l)[i+1]?) hxi hbp.symm hsm,<-sU hx];exact hI,by simp only[List.length_set];omega,by simpa using h3,h4,Vk hoz hbz⟩ (hμ:=(by show(aF l).length-(i+1)<(aF l).length-i;omega)) (ht:=⟨rfl,(aB rfl (by simp only[List.length_set])),rfl,rfl,rfl,rfl,trivial⟩) (hL:=eG.auto)
     ·have hsm:pJ b.f x.f x.i.f=false:=hb7;have hst:kL o (o9 (aF l) i) x (aF l)[i+1]? =zk o (aF l)[i+1]? x:=qle hxi hbp.symm hsm;refine rG (nt:=219) (X:={z:Bool // zk o (aF l)[i+1]? x=if z=true then o else o++[⟨x.i,jg x.f x.i.f⟩]}) (fun⟨z,hz0⟩=>[(0,.iface 197 (.agg #[])),(7,az (some go) 0 o.length oc),(8,az (some ga) 0 (aF l).length ac),(41,az (some ga) 0 (aF l).length ac),(42,bz ((aF l).length)),(43,bz i),(9,bz i),(10,dV g0),(11,dV g1),(12,.pointer (Xc (some go) o.length (some b))),(184,.bool z)]) (fun⟨z,hz0⟩=>[⟨lb,201,ah aQ l,lN,false⟩,⟨sb,201,ah aQ l,sN,true⟩,⟨some ga,201,ah aQ (aF l),aN,true⟩,⟨some go,201,ah aQ o,oN,true⟩,⟨some g0,201,aQ x,36,true⟩,⟨some g1,38,iD x.i.f,9,true⟩]) ?_ ?_
      ·refine Di [] ?_ (hc:=(oz (0::1::0::4::15::31::63::63::191::511::1023::2047::4095::63::16383::32767::65535::131071::131071::131071::655359::1966079::4063231::8257535::131071::16908287::131071::262143::134479871::402915327::1073741823::2147483647::4294967295::[]) (by kernel_rfl)));refine A1 ?_;refine Ar (((i+1:Nat):Int)) ?_;refine A4 ?_;refine Rs 190 ?_ ?_<;>intro hb8
       ·have hjt:i+1<(aF l).length:=by have e:=of_decide_eq_true hb8;omega
        obtain⟨n,hn⟩:∃n,(aF l)[i+1]? =some n:=⟨_,List.getElem?_eq_getElem hjt⟩;obtain⟨hnv,hnf_⟩:=KW hz n (List.mem_of_getElem? hn);refine A2 ?_;refine Ar (((i+1:Nat):Int)) ?_;refine ai 2 ((i+1)*36) kX jK rfl rfl rfl rfl rfl (by omega) (by omega) (aC.ne (by decide) (by omega)) (by show 0+Int.toNat _*36=_;omega) ?_;refine Fg ((i+1)*36) 0 ?_;refine Fg ((i+1)*36) 0 ?_;refine aO (v:=RV n.i.f) 2 ((i+1)*36) _ rfl rfl rfl rfl iK (aC.sub hn 0 9 (by decide)) rfl (by decide) rfl ?_;refine L9 5 0 ?_;refine gu rfl rfl rfl rfl Mc (MB _ _) ?_;refine A2 ?_;refine Rs 201 ?_ ?_<;>intro hb9
        ·have hnf:n.i.f=x.i.f:=of_decide_eq_true hb9;refine A3 ?_;refine Ar (((i+1:Nat):Int)) ?_;refine ai 2 ((i+1)*36) kX jK rfl rfl rfl rfl rfl (by omega) (by omega) (aC.ne (by decide) (by omega)) (by show 0+Int.toNat _*36=_;omega) ?_;refine Fg ((i+1)*36) 20 ?_;refine aO (v:=xK n.f) 2 ((i+1)*36+20) _ rfl rfl rfl rfl Dx (aC.sub hn 20 16 (by decide)) rfl (by decide) rfl ?_;refine A1 ?_;refine X6 4 20 ?_;refine L9 5 0 ?_;refine uf rfl rfl rfl _ (fun _=>rfl) ?_;refine wF rfl rfl rfl (fun _=>by kernel_rfl) ?_;refine A1 ?_;refine Bq 197 (.agg #[]) (.agg #[]) [_,_,_] rfl rfl rfl (fun _=>by kernel_rfl) rfl (y5 n.f x.f x.i.f) ?_;refine A4 ?_;exact Ni ⟨pJ n.f x.f x.i.f,qjy hn hnf⟩ [0,1,2,3,4,5]
        ·have hnf:n.i.f≠x.i.f:=of_decide_eq_false hb9;refine A18 ?_;exact Ni ⟨false,by rw[Vj hn (fun e=>hnf e.1)];rfl⟩ [0,1,2,3,4,5]
       ·have hn:(aF l)[i+1]? =none:=List.getElem?_eq_none (by have e:=of_decide_eq_false hb8;omega);refine A29 ?_;exact Ni ⟨false,by rw[qf0 hn];rfl⟩ [0,1,2,3,4,5]
      rintro⟨z,hz0⟩;show At _ ⟨219,[(0,.iface 197 (.agg #[])),(7,az (some go) 0 o.length oc),(8,az (some ga) 0 (aF l).length ac),(41,az (some ga) 0 (aF l).length ac),(42,bz ((aF l).length)),(43,bz i),(9,bz i),(10,dV g0),(11,dV g1),(12,.pointer (Xc (some go) o.length (some b))),(184,.bool z)],[⟨lb,201,ah aQ l,lN,false⟩,⟨sb,201,ah aQ l,sN,true⟩,⟨some ga,201,ah aQ (aF l),aN,true⟩,⟨some go,201,ah aQ o,oN,true⟩,⟨some g0,201,aQ x,36,true⟩,⟨some g1,38,iD x.i.f,9,true⟩]⟩ _;refine Cd ?_ ?_<;>intro hb9
      ·have hzv:z=true:=hb9;refine A5 ?_;refine Ar (((i+1:Nat):Int)) ?_;refine A3 ?_;exact Nl ⟨⟨i+1,o,(some go),oN,oc⟩,hlt,by rw[hI,sU hx,hst,hz0,if_pos hzv],Nat.le_succ_of_le hoi,h3,h4,hoz⟩ (hμ:=(by show(aF l).length-(i+1)<(aF l).length-i;omega)) (hL:=eG.auto)
      ·have hzv:z=false:=hb9;refine A4 ?_;refine X6 4 20 ?_;refine L9 5 0 ?_;refine Bq 197 (.agg #[]) (.agg #[]) [_,_] rfl rfl rfl (fun _=>by kernel_rfl) rfl (AX x.f x.i.f) ?_;refine A1 ?_;refine Ss 4 ?_;refine A4 ?_;refine L36 4 0 ?_;refine Kr 87 (U2 ⟨x.i,jg x.f x.i.f⟩) ?_;refine(Bl 36 [(0,_)]) (rF) (fun g2=>?_);refine(Qa (s:=36) (len:=o.length) (n2:=1) 3 6 (fun r=>[_,_,_,⟨some r.g,201,ah aQ o++aQ (⟨x.i,jg x.f x.i.f⟩),r.n,true⟩,_,_,_]) kX Ae) (aC.length o) h3 h4 (aC.one (⟨x.i,jg x.f x.i.f⟩)) (fun r=>?_);refine A6 ?_;refine Ar (((i+1:Nat):Int)) ?_;refine A3 ?_;exact Nl ⟨⟨i+1,o++[⟨x.i,jg x.f x.i.f⟩],some r.g,r.n,r.cap⟩,hlt,by rw[hI,sU hx,hst,hz0,if_neg (by rw[hzv];decide)],by rw[List.length_append];exact Nat.succ_le_succ hoi,by rw[List.length_append];exact r.h,r.hn,Qk hoz (Xd hxf hxi1)⟩ (hμ:=(by show(aF l).length-(i+1)<(aF l).length-i;omega)) (ht:=⟨rfl,(aB rfl (by rw[List.length_append];rfl)),rfl,rfl,rfl,rfl,trivial⟩) (hL:=(au [some 0,some 1,some 2,some 3] ⟨pR,pR,pR,⟨_,rfl,aI (by rw[bH])⟩,trivial⟩ rfl rfl))
  ·have hge:i=(aF l).length:=(by have:=of_decide_eq_false hb3;omega);subst hge;obtain rfl:o=qL l:=(hI.trans qfe).symm;refine CB ?_;refine bF rfl (aj rfl) (aj rfl) (fun w hL=>⟨⟨ob,oN,oc,h3⟩,?_,hL.pk [some 3]⟩);exact rfl
end Go.Proofs.YtaffcpfhedadhaaGreatDoor
namespace Go.Via
open Go
theorem YW(x y:Rat):xK ⟨x,0,y,0⟩= .agg #[.bool (decide (x.num<0)),.string (bQ x.num.natAbs),.bool false,.string (dm x),aX,aY,aX,aY,.bool (decide (y.num<0)),.string (bQ y.num.natAbs),.bool false,.string (dm y),aX,aY,aX,aY]:=by
 unfold xK;have e1:decide ((0:Rat).num<0)=false:=by decide
 have e2:bQ (0:Rat).num.natAbs=⟨#[]⟩:=je;have e3:dm (0:Rat)=⟨#[]⟩:=rfl;simp only[e1,e2,e3]
end Go.Via
namespace Go.Proofs.YtaffcpfhedadhaaGreatDoor
open Go Go.RowKit Go.Via
def vP(t x y:Int)(ht1: -9223372036854775808<=t:=by omega)(ht2:t<=9223372036854775807:=by omega)(hx1: -9223372036854775808<=x:=by omega)(hx2:x<=9223372036854775807:=by omega)(hy1: -9223372036854775808<=y:=by omega)(hy2:y<=9223372036854775807:=by omega):aP Tryz.prog 84 #[.int .i64 t,.int .i64 x,.int .i64 y] (.agg #[.bool (decide (((t:Rat)).num<0)),.string (bQ ((t:Rat)).num.natAbs),.bool false,.string (dm ((t:Rat))),.bool (decide (((x:Rat)).num<0)),.string (bQ ((x:Rat)).num.natAbs),.bool false,.string (dm ((x:Rat))),.bool (decide (((y:Rat)).num<0)),.string (bQ ((y:Rat)).num.natAbs),.bool false,.string (dm ((y:Rat)))]):=by
 refine pB3 15 Tryz.func84 fun w=>?_;refine A2 ?_;refine Al 12 qdl (fun g0=>?_);refine A5 ?_;refine Pc (gG t ht1 ht2) ?_;refine A1 ?_;refine Pc (gG x hx1 hx2) ?_;refine A1 ?_;refine Pc (gG y hy1 hy2) ?_;refine(Bu [(0,_),(1,_)]) (qdp) ?_;refine(Bu [(0,_),(1,_)]) (qdq) ?_;refine Ss 0 ?_;refine A3 ?_;refine JR 0 ?_;exact rfl
def C9(x y:Rat):aP Tryz.prog 88 #[.agg #[.bool (decide ((x).num<0)),.string (bQ (x).num.natAbs),.bool false,.string (dm (x)),.bool (decide ((y).num<0)),.string (bQ (y).num.natAbs),.bool false,.string (dm (y))]] (xK ⟨x,0,y,0⟩):=by
 refine xJ 8 Tryz.func88 fun w=>?_;refine A2 ?_;refine Bp 8 (fun g0=>?_);refine Al 16 z98 (fun g1=>?_);refine A5 ?_;refine L4 0 0 ?_;refine A1 ?_;refine L4 0 4 ?_;refine(Bu [(0,_),(2,_)]) (XW) ?_;refine Ss 1 ?_;refine A3 ?_;refine qgV 1 ?_;rw[YW]
def zl(t x y u v z:Rat)(h0:u-t≠0:=by omega)(ht:dw t<=100000:=by omega)(hx:dw x<=100000:=by omega)(hy:dw y<=100000:=by omega)(hu:dw u<=100000:=by omega)(hv:dw v<=100000:=by omega)(hz:dw z<=100000:=by omega):aP Tryz.prog 87 #[.agg #[.bool (decide ((t).num<0)),.string (bQ (t).num.natAbs),.bool false,.string (dm (t)),.bool (decide ((x).num<0)),.string (bQ (x).num.natAbs),.bool false,.string (dm (x)),.bool (decide ((y).num<0)),.string (bQ (y).num.natAbs),.bool false,.string (dm (y))],.agg #[.bool (decide ((u).num<0)),.string (bQ (u).num.natAbs),.bool false,.string (dm (u)),.bool (decide ((v).num<0)),.string (bQ (v).num.natAbs),.bool false,.string (dm (v)),.bool (decide ((z).num<0)),.string (bQ (z).num.natAbs),.bool false,.string (dm (z))]] (xK ⟨(x-(v-x)/(u-t)*t),((v-x)/(u-t)),(y-(z-y)/(u-t)*t),((z-y)/(u-t))⟩):=by
 refine oG 46 Tryz.func87 fun w=>?_;refine A2 ?_;refine Bp 12 (fun g0=>?_);refine Bp 12 (fun g1=>?_);refine Al 16 z98 (fun g2=>?_);refine A5 ?_;refine L4 0 0 ?_;refine A2 ?_;refine L4 0 4 ?_;refine A1 ?_;refine L4 1 0 ?_;refine A2 ?_;refine L4 1 4 ?_;refine Pc (tH t x u v h0 ht hx hu hv) ?_;refine A3 ?_;refine Al 12 G6 (fun g3=>?_);refine Ss 3 ?_;refine A6 ?_;refine L4 0 0 ?_;refine A2 ?_;refine L4 0 8 ?_;refine A1 ?_;refine L4 1 0 ?_;refine A2 ?_;refine L4 1 8 ?_;refine Pc (tH t y u z h0 ht hy hu hz) ?_;refine A3 ?_;refine Al 12 G6 (fun g4=>?_);refine Ss 4 ?_;refine A6 ?_;refine L4 3 0 ?_;refine A1 ?_;refine L4 3 4 ?_;refine A1 ?_;refine L4 4 0 ?_;refine A1 ?_;refine L4 4 4 ?_;refine(Bu [(0,_),(1,_),(2,_),(3,_)]) (Z4) ?_;refine Ss 2 ?_;refine A3 ?_;refine qgV 2 ?_;exact rfl
def MK(l:List PU)(lb:Option Nat)(lN lc:Nat)(hlc:l.length<=lc:=by omega)(hln:l.length<=1000:=by omega):dh Tryz.prog 136 [⟨lb,100,ah aQ l,lN,false⟩] [az lb 0 l.length lc] (SR (l).length) SR.v (fun z=>[⟨z.b,201,ah aQ (l),z.n,true⟩]):=by
 refine Md 26 Tryz.func136 fun w hL0=>?_;refine MW ?_;refine El (ι:={z:Nat×List PU×Option Nat×Nat×Nat // z.1<=l.length∧z.2.1=l.take z.1∧z.2.1.length<=z.2.2.2.2∧z.2.2.2.2*36<=z.2.2.2.1}) (fun⟨⟨i,o,ob,oN,oc⟩,hi,hI,h3,h4⟩=>([(0,az lb 0 l.length lc),(3,az ob 0 o.length oc),(4,bz i)],[⟨lb,100,ah aQ l,lN,false⟩,⟨ob,201,ah aQ o,oN,true⟩],l.length-i)) ⟨⟨0,[],none,0,0⟩,Nat.zero_le _,rfl,Nat.le_refl _,by simp⟩ ?_ (hL:=(au [some 0,none] ⟨pR,⟨rfl,rfl,rfl⟩,trivial⟩ rfl rfl));rintro⟨⟨i,o,ob,oN,oc⟩,hi,hI,h3,h4⟩;(try dsimp only);replace hi:i<=l.length:=hi;replace hI:o=l.take i:=hI;replace h3:o.length<=oc:=h3;replace h4:oc*36<=oN:=h4
 have hol:o.length<=100000:=(by rw[hI,List.length_take];omega);refine A9 ?_;refine Cd ?_ ?_<;>intro hb1
 ·have hlt:i<l.length:=(by have:=of_decide_eq_true hb1;omega);obtain⟨x,hx⟩:∃x,l[i]? =some x:=⟨l[i],List.getElem?_eq_getElem hlt⟩;refine fD 0 rfl (aC.ne (by decide) (by omega)) (fun hbs=>?_);obtain⟨gl,hgl⟩:=Option.isSome_iff_exists.1 hbs;replace hgl:lb=some gl:=hgl;subst hgl;refine A4 ?_;refine qQ (l':=[⟨_,_,_,_,_,_⟩,⟨_,_,_,_,_,_⟩,⟨_,_,_,_,_,_⟩,⟨_,_,_,_,_,_⟩,⟨_,_,_,_,_,_⟩,⟨_,_,_,_,_,_⟩,⟨_,_,_,_,_,_⟩,⟨_,_,_,_,_,_⟩,⟨_,_,_,_,_,_⟩,⟨_,_,_,_,_,_⟩,⟨_,_,_,_,_,_⟩]) [2000000] [1,2,3,4,5,6,7,8,9,10,11] [0,12,13,14] mixed (by kernel_rfl) rfl ?_;refine A2 ?_;refine ai 0 ((i)*36) JP wC rfl rfl rfl rfl rfl (by omega) (by omega) (aC.ne (by decide) (by omega)) (by show 0+Int.toNat _*36=_;omega) ?_;refine Fg ((i)*36) 0 ?_;refine aO (v:=kF x.i) 0 ((i)*36+0) _ rfl rfl rfl rfl iC (aC.sub hx 0 20 (by decide)) rfl (by decide) rfl ?_;refine A2 ?_;refine ai 0 ((i)*36) JP wC rfl rfl rfl rfl rfl (by omega) (by omega) (aC.ne (by decide) (by omega)) (by show 0+Int.toNat _*36=_;omega) ?_;refine Fg ((i)*36) 20 ?_;refine aO (v:=xK x.f) 0 ((i)*36+20) _ rfl rfl rfl rfl Dx (aC.sub hx 20 16 (by decide)) rfl (by decide) rfl ?_;refine(Bu [(0,_),(1,_)]) (Ew) ?_;refine A1 ?_;refine aJ [0,12] (by kernel_rfl) ⟨⟨_,rfl,?_⟩,⟨_,rfl,?_⟩,trivial⟩
  ·refine A2 ?_;refine aJ [12] (by kernel_rfl) ⟨⟨_,rfl,?_⟩,trivial⟩
   ·refine(Bl 36 [(0,_)]) (rF) (fun g0=>?_);refine A1 ?_;refine aJ [13] (by kernel_rfl) ⟨⟨_,rfl,?_⟩,trivial⟩
    ·refine(Qa (s:=36) (len:=o.length) (n2:=1) 1 2 (fun r=>[_,⟨some r.g,201,ah aQ o++aQ (x),r.n,true⟩,_]) kX Ae) (aC.length o) h3 h4 (aC.one (x)) (fun r=>?_);refine A1 ?_;refine aJ [14] (by kernel_rfl) ⟨⟨_,rfl,?_⟩,trivial⟩
     ·refine A2 ?_;refine jU rfl ?_;refine A4 ?_;refine Ar (((i+1:Nat):Int)) ?_;refine A3 ?_;exact Nl ⟨⟨i+1,o++[x],some r.g,r.n,r.cap⟩,hlt,by show o++[x]=l.take (i+1);rw[<-dD hx,<-hI],by rw[List.length_append];exact r.h,r.hn⟩ (hμ:=(by show l.length-(i+1)<l.length-i;omega)) (ht:=⟨rfl,(aB rfl (by rw[List.length_append];rfl)),rfl,trivial⟩) (hL:=(au [some 0,some 1] ⟨pR,⟨_,rfl,aI (by rw[bH])⟩,trivial⟩ rfl rfl))
  ·refine(Bl 36 [(0,_)]) (rF) (fun g0=>?_);refine A1 ?_;refine aJ [0] (by kernel_rfl) ⟨⟨_,rfl,?_⟩,trivial⟩
   ·refine A2 ?_;refine aJ [13] (by kernel_rfl) ⟨⟨_,rfl,?_⟩,trivial⟩
    ·refine(Qa (s:=36) (len:=o.length) (n2:=1) 1 2 (fun r=>[_,⟨some r.g,201,ah aQ o++aQ (x),r.n,true⟩,_]) kX Ae) (aC.length o) h3 h4 (aC.one (x)) (fun r=>?_);refine A1 ?_;refine aJ [14] (by kernel_rfl) ⟨⟨_,rfl,?_⟩,trivial⟩
     ·refine A2 ?_;refine jU rfl ?_;refine A4 ?_;refine Ar (((i+1:Nat):Int)) ?_;refine A3 ?_;exact Nl ⟨⟨i+1,o++[x],some r.g,r.n,r.cap⟩,hlt,by show o++[x]=l.take (i+1);rw[<-dD hx,<-hI],by rw[List.length_append];exact r.h,r.hn⟩ (hμ:=(by show l.length-(i+1)<l.length-i;omega)) (ht:=⟨rfl,(aB rfl (by rw[List.length_append];rfl)),rfl,trivial⟩) (hL:=(au [some 0,some 1] ⟨pR,⟨_,rfl,aI (by rw[bH])⟩,trivial⟩ rfl rfl))
 ·have hge:i=l.length:=(by have:=of_decide_eq_false hb1;omega);subst hge;obtain rfl:o=l:=by rw[hI,List.take_length]
  refine lX ?_;refine aH rfl (aj rfl) (fun w hL=>⟨⟨ob,oN,oc,h3⟩,?_,hL.pk [some 1]⟩);exact rfl
def Ls(l:List PU)(lb:Option Nat)(lN lc:Nat)(hlc:l.length<=lc:=by omega)(hln:l.length<=1000:=by omega):dh Tryz.prog 137 [⟨lb,201,ah aQ l,lN,false⟩] [az lb 0 l.length lc] (SR (l).length) SR.v (fun z=>[⟨z.b,100,ah aQ (l),z.n,true⟩]):=by
 refine Md 26 Tryz.func137 fun w hL0=>?_;refine MW ?_;refine El (ι:={z:Nat×List PU×Option Nat×Nat×Nat // z.1<=l.length∧z.2.1=l.take z.1∧z.2.1.length<=z.2.2.2.2∧z.2.2.2.2*36<=z.2.2.2.1}) (fun⟨⟨i,o,ob,oN,oc⟩,hi,hI,h3,h4⟩=>([(0,az lb 0 l.length lc),(3,az ob 0 o.length oc),(4,bz i)],[⟨lb,201,ah aQ l,lN,false⟩,⟨ob,100,ah aQ o,oN,true⟩],l.length-i)) ⟨⟨0,[],none,0,0⟩,Nat.zero_le _,rfl,Nat.le_refl _,by simp⟩ ?_ (hL:=(au [some 0,none] ⟨pR,⟨rfl,rfl,rfl⟩,trivial⟩ rfl rfl));rintro⟨⟨i,o,ob,oN,oc⟩,hi,hI,h3,h4⟩;(try dsimp only);replace hi:i<=l.length:=hi;replace hI:o=l.take i:=hI;replace h3:o.length<=oc:=h3;replace h4:oc*36<=oN:=h4
 have hol:o.length<=100000:=(by rw[hI,List.length_take];omega);refine A9 ?_;refine Cd ?_ ?_<;>intro hb1
 ·have hlt:i<l.length:=(by have:=of_decide_eq_true hb1;omega);obtain⟨x,hx⟩:∃x,l[i]? =some x:=⟨l[i],List.getElem?_eq_getElem hlt⟩;refine fD 0 rfl (aC.ne (by decide) (by omega)) (fun hbs=>?_);obtain⟨gl,hgl⟩:=Option.isSome_iff_exists.1 hbs;replace hgl:lb=some gl:=hgl;subst hgl;refine A4 ?_;refine qQ (l':=[⟨_,_,_,_,_,_⟩,⟨_,_,_,_,_,_⟩,⟨_,_,_,_,_,_⟩,⟨_,_,_,_,_,_⟩,⟨_,_,_,_,_,_⟩,⟨_,_,_,_,_,_⟩,⟨_,_,_,_,_,_⟩,⟨_,_,_,_,_,_⟩,⟨_,_,_,_,_,_⟩,⟨_,_,_,_,_,_⟩,⟨_,_,_,_,_,_⟩]) [2000000] [1,2,3,4,5,6,7,8,9,10,11] [0,12,13,14] mixed (by kernel_rfl) rfl ?_;refine A2 ?_;refine ai 0 ((i)*36) kX jK rfl rfl rfl rfl rfl (by omega) (by omega) (aC.ne (by decide) (by omega)) (by show 0+Int.toNat _*36=_;omega) ?_;refine Fg ((i)*36) 0 ?_;refine aO (v:=kF x.i) 0 ((i)*36) _ rfl rfl rfl rfl iC (aC.sub hx 0 20 (by decide)) rfl (by decide) rfl ?_;refine A2 ?_;refine ai 0 ((i)*36) kX jK rfl rfl rfl rfl rfl (by omega) (by omega) (aC.ne (by decide) (by omega)) (by show 0+Int.toNat _*36=_;omega) ?_;refine Fg ((i)*36) 20 ?_;refine aO (v:=xK x.f) 0 ((i)*36+20) _ rfl rfl rfl rfl Dx (aC.sub hx 20 16 (by decide)) rfl (by decide) rfl ?_;refine(Bu [(0,_),(1,_)]) (rE) ?_;refine A1 ?_;refine aJ [0,12] (by kernel_rfl) ⟨⟨_,rfl,?_⟩,⟨_,rfl,?_⟩,trivial⟩
  ·refine A2 ?_;refine aJ [12] (by kernel_rfl) ⟨⟨_,rfl,?_⟩,trivial⟩
   ·refine(Bl 36 [(0,_)]) (uI) (fun g0=>?_);refine A1 ?_;refine aJ [13] (by kernel_rfl) ⟨⟨_,rfl,?_⟩,trivial⟩
    ·refine(Qa (s:=36) (len:=o.length) (n2:=1) 1 2 (fun r=>[_,⟨some r.g,100,ah aQ o++aQ (x),r.n,true⟩,_]) JP CE) (aC.length o) h3 h4 (aC.one (x)) (fun r=>?_);refine A1 ?_;refine aJ [14] (by kernel_rfl) ⟨⟨_,rfl,?_⟩,trivial⟩
     ·refine A2 ?_;refine jU rfl ?_;refine A4 ?_;refine Ar (((i+1:Nat):Int)) ?_;refine A3 ?_;exact Nl ⟨⟨i+1,o++[x],some r.g,r.n,r.cap⟩,hlt,by show o++[x]=l.take (i+1);rw[<-dD hx,<-hI],by rw[List.length_append];exact r.h,r.hn⟩ (hμ:=(by show l.length-(i+1)<l.length-i;omega)) (ht:=⟨rfl,(aB rfl (by rw[List.length_append];rfl)),rfl,trivial⟩) (hL:=(au [some 0,some 1] ⟨pR,⟨_,rfl,aI (by rw[bH])⟩,trivial⟩ rfl rfl))
  ·refine(Bl 36 [(0,_)]) (uI) (fun g0=>?_);refine A1 ?_;refine aJ [0] (by kernel_rfl) ⟨⟨_,rfl,?_⟩,trivial⟩
   ·refine A2 ?_;refine aJ [13] (by kernel_rfl) ⟨⟨_,rfl,?_⟩,trivial⟩
    ·refine(Qa (s:=36) (len:=o.length) (n2:=1) 1 2 (fun r=>[_,⟨some r.g,100,ah aQ o++aQ (x),r.n,true⟩,_]) JP CE) (aC.length o) h3 h4 (aC.one (x)) (fun r=>?_);refine A1 ?_;refine aJ [14] (by kernel_rfl) ⟨⟨_,rfl,?_⟩,trivial⟩
     ·refine A2 ?_;refine jU rfl ?_;refine A4 ?_;refine Ar (((i+1:Nat):Int)) ?_;refine A3 ?_;exact Nl ⟨⟨i+1,o++[x],some r.g,r.n,r.cap⟩,hlt,by show o++[x]=l.take (i+1);rw[<-dD hx,<-hI],by rw[List.length_append];exact r.h,r.hn⟩ (hμ:=(by show l.length-(i+1)<l.length-i;omega)) (ht:=⟨rfl,(aB rfl (by rw[List.length_append];rfl)),rfl,trivial⟩) (hL:=(au [some 0,some 1] ⟨pR,⟨_,rfl,aI (by rw[bH])⟩,trivial⟩ rfl rfl))
 ·have hge:i=l.length:=(by have:=of_decide_eq_false hb1;omega);subst hge;obtain rfl:o=l:=by rw[hI,List.take_length]
  refine lX ?_;refine aH rfl (aj rfl) (fun w hL=>⟨⟨ob,oN,oc,h3⟩,?_,hL.pk [some 1]⟩);exact rfl
def nP{S:Rl->Prop}{ρ:Rl->Int}(T:gU S ρ)(l:List PU)(lb:Option Nat)(lN lc:Nat)(hlc:l.length<=lc)(hln:l.length<=1000)(hsep:qH ρ l)(hE:Go.Via.Ends S l)(h0:0<l.length)(h20:l.length<20)(hz:∀u∈l,jV u.i<=1000∧jo u.f<=1000):dh Tryz.prog 89 [⟨lb,100,ah aQ l,lN,false⟩] [az lb 0 l.length lc] (SR (qL l).length) (fun z=> .tuple #[z.v,.int .i64 0]) (fun z=>[⟨z.b,100,ah aQ (qL l),z.n,true⟩]):=by
 refine⟨by kernel_rfl,fun w hL0=>?_⟩;have hnl:(qL l).length<=1000:=Nat.le_trans (N7 (l:=l)) (by omega);refine cB1 17 Tryz.func89 hL0 ?_;refine A8 ?_;refine(Bu []) (qdu) ?_;refine Q5 rfl rfl rfl (fun _=>by kernel_rfl) ?_;refine A1 ?_;refine(Sc [0]) (MK l lb lN lc hlc hln) (fun z=>?_);obtain⟨ub,uN,uc,huc⟩:=z;refine(Sc [1]) (IA T l ub uN uc huc hln hsep hE h0 h20 hz) (fun z=>?_);obtain⟨nb,nN,nc,hnc⟩:=z;refine lm ?_;refine(Sc [2]) (Ls (qL l) nb nN nc hnc hnl) (fun z=>?_);obtain⟨pb,pN,pc,hpc⟩:=z;refine A6 ?_;refine bF rfl (aj rfl) (aj rfl) (fun w hL=>⟨⟨pb,pN,pc,hpc⟩,?_,hL.pk [some 3]⟩);exact rfl
def gJ(t x y:Nat)(ht:t<256)(hx:x<256)(hy:y<256)(l:List sV)(lb:Option Nat)(pre:List Value)(lN lc:Nat)(hlc:l.length<=lc)(h6:l.length<=6)(hs:∀s∈l,YT s):dh Tryz.prog 40 [⟨lb,86,pre++ah kQ l,lN,false⟩] [.agg #[.int .u8 (t:Nat),.int .u8 (x:Nat),.int .u8 (y:Nat),az lb pre.length l.length lc]] (SR (iF t x y l).length) SR.v (fun z=>[⟨z.b,100,ah aQ (iF t x y l),z.n,true⟩]):=by
 refine Md 133 Tryz.func40 fun w hL0=>?_;refine A2 ?_;refine Bp 4 (fun g0=>?_);refine lX ?_;refine(Dv ((t%16:Nat):Int)) (congrArg some (eY _ _ rfl rfl)) ?_;refine(Cv ((t%16:Nat):Int) u5 u3) (by exact(wi (by omega) (by omega) (by omega))) ?_;refine A2 ?_;refine(Dv ((x%64:Nat):Int)) (congrArg some (eY _ _ rfl rfl)) ?_;refine(Cv ((x%64:Nat):Int) u5 u3) (by exact(wi (by omega) (by omega) (by omega))) ?_;refine A2 ?_;refine(Dv ((y%64:Nat):Int)) (congrArg some (eY _ _ rfl rfl)) ?_;refine(Cv ((y%64:Nat):Int) u5 u3) (by exact(wi (by omega) (by omega) (by omega))) ?_;refine Pc (vP (t%16:Nat) (x%64:Nat) (y%64:Nat)) ?_;refine Al 12 qdl (fun g1=>?_);refine Ss 2 ?_;refine D6 ?_;refine El (ι:={z:Nat×zy×Bool×List PU×Option Nat×Nat×Nat // z.1<=l.length∧Ja z.2.1 (l.length-z.1)∧GM t x y l=iT (l.drop z.1) z.2.1 z.2.2.1 z.2.2.2.1∧z.2.2.2.1.length<=z.1∧z.2.2.2.1.length<=z.2.2.2.2.2.2∧z.2.2.2.2.2.2*36<=z.2.2.2.2.2.1}) (fun⟨⟨i,last,alone,o,ob,oN,oc⟩,hi,hsm,hI,ho,h3,h4⟩=>([(1,dV g0),(3,az ob 0 o.length oc),(4,dV g1),(5,.bool alone),(6,bz i)],[⟨lb,86,pre++ah kQ l,lN,false⟩,⟨some g0,24,[.int .u8 (t:Nat),.int .u8 (x:Nat),.int .u8 (y:Nat),az lb pre.length l.length lc],4,true⟩,⟨some g1,137,GK last,12,true⟩,⟨ob,100,ah aQ o,oN,true⟩],l.length-i)) ⟨⟨0,st0 t x y,true,[],none,0,0⟩,Nat.zero_le _,KX h6,rfl,Nat.le_refl _,Nat.le_refl _,by simp⟩ ?_ (hL:=(au [some 0,some 1,some 2,none] ⟨pR,pR,pR,⟨rfl,rfl,rfl⟩,trivial⟩ rfl rfl));rintro⟨⟨i,last,alone,o,ob,oN,oc⟩,hi,hsm,hI,ho,h3,h4⟩;(try dsimp only);replace hi:i<=l.length:=hi;replace hsm:Ja last (l.length-i):=hsm;replace hI:GM t x y l=iT (l.drop i) last alone o:=hI;replace ho:o.length<=i:=ho;replace h3:o.length<=oc:=h3;replace h4:oc*36<=oN:=h4;have ht0:=hsm.t0;have ht1:=hsm.t1;refine A9 ?_;refine Rs 32 ?_ ?_<;>intro hb1
 ·have hlt:i<l.length:=(by have:=of_decide_eq_true hb1;omega);obtain⟨s,hx⟩:∃s,l[i]? =some s:=⟨l[i],List.getElem?_eq_getElem hlt⟩;obtain⟨hs1,hs2,hs3,hs4⟩:=hs s (List.mem_of_getElem? hx);have hsn:Ja (uk last s) (l.length-(i+1)):=GL (by rw[show l.length-(i+1)+1=l.length-i by omega];exact hsm);refine A5 ?_;refine Cd ?_ ?_<;>intro hb2
  ·refine A5 ?_;refine fD 0 rfl (kJ.neP (l:=l) (by decide) pre (by omega)) (fun hbs=>?_);obtain⟨gl,hgl⟩:=Option.isSome_iff_exists.1 hbs;replace hgl:lb=some gl:=hgl;subst hgl;refine A4 ?_;refine Em (pre.length+i*4) u22 qgC rfl rfl rfl rfl (by omega) (by omega) (by show pre.length+Int.toNat _*4=_;omega) ?_;refine aO (v:=SpV s) 0 (pre.length+i*4) _ rfl rfl rfl rfl qgC (kJ.subP pre hx 0 4 (by decide)) rfl (by decide) rfl ?_;refine Al 4 z86 (fun g2=>?_);refine Ss 4 ?_;refine A6 ?_;refine L2 2 0 ?_;refine Pc (Ig ((last.t:Rat).num)) ?_;refine A2 ?_;refine aT 48 (.int .i64 last.t) rfl (congrArg (Value.int .i64) (qfh hsm)) ?_;refine A8 ?_;refine(Aq (last.t+1)) (by exact(congrArg some (wi (by omega) (by omega) rfl))) ?_;refine A2 ?_;refine(Dv ((s.time%8:Nat):Int)) (congrArg some (eY _ _ rfl rfl)) ?_;refine(Cv ((s.time%8:Nat):Int) u5 u3) (by exact(wi (by omega) (by omega) (by omega))) ?_;refine(Aq (last.t+1+((s.time%8:Nat):Int))) (by exact(congrArg some (wi (by omega) (by omega) rfl))) ?_;refine A2 ?_;refine(Dv ((s.x%64:Nat):Int)) (congrArg some (eY _ _ rfl rfl)) ?_;refine(Cv ((s.x%64:Nat):Int) u5 u3) (by exact(wi (by omega) (by omega) (by omega))) ?_;refine A2 ?_;refine(Dv ((s.y%64:Nat):Int)) (congrArg some (eY _ _ rfl rfl)) ?_;refine(Cv ((s.y%64:Nat):Int) u5 u3) (by exact(wi (by omega) (by omega) (by omega))) ?_;refine Pc (vP (last.t+1+((s.time%8:Nat):Int)) (s.x%64:Nat) (s.y%64:Nat)) ?_;refine Kr 65 (SmV (uk last s)) ?_;refine Al 12 qdl (fun g3=>?_);refine Ss 5 ?_;refine A4 ?_;refine ut 2 0 ?_;refine Al 12 qdl (fun g4=>?_);refine Ss 6 ?_;refine A2 ?_;refine rG (nt:=133) (X:={f:zy // f=if s.kind%8=1 then swS last s else last}) (fun⟨f,hf⟩=>[(1,dV g0),(3,az ob 0 o.length oc),(4,dV g1),(5,.bool alone),(6,bz i),(7,dV g2),(10,dV g3),(11,dV g4)]) (fun⟨f,hf⟩=>[⟨some gl,86,pre++ah kQ l,lN,false⟩,⟨some g0,24,[.int .u8 (t:Nat),.int .u8 (x:Nat),.int .u8 (y:Nat),az (some gl) pre.length l.length lc],4,true⟩,⟨some g1,137,GK last,12,true⟩,⟨ob,100,ah aQ o,oN,true⟩,⟨some g2,86,kQ s,4,true⟩,⟨some g3,137,GK (uk last s),12,true⟩,⟨some g4,137,GK f,12,true⟩]) ?_ ?_
   ·refine A4 ?_;refine(Dv ((s.kind%8:Nat):Int)) (congrArg some (eY _ _ rfl rfl)) ?_;refine A3 ?_;refine Cd ?_ ?_<;>intro hb3
    ·have hk1:s.kind%8=1:=by have e:=of_decide_eq_true hb3;omega
     refine A3 ?_;refine(Dv ((s.y%64:Nat):Int)) (congrArg some (eY _ _ rfl rfl)) ?_;refine(Cv ((s.y%64:Nat):Int) u5 u3) (by exact(wi (by omega) (by omega) (by omega))) ?_;refine A2 ?_;refine(Dv ((s.x%64:Nat):Int)) (congrArg some (eY _ _ rfl rfl)) ?_;refine(Cv ((s.x%64:Nat):Int) u5 u3) (by exact(wi (by omega) (by omega) (by omega))) ?_;refine Pc (vP 0 (s.y%64:Nat) (s.x%64:Nat)) ?_;refine qcX (v:= .agg #[.bool (decide ((((0:Int):Rat)).num<0)),.string (bQ (((0:Int):Rat)).num.natAbs),.bool false,.string (dm (((0:Int):Rat))),.bool (decide (((((s.y%64:Nat):Int):Rat)).num<0)),.string (bQ ((((s.y%64:Nat):Int):Rat)).num.natAbs),.bool false,.string (dm ((((s.y%64:Nat):Int):Rat))),.bool (decide (((((s.x%64:Nat):Int):Rat)).num<0)),.string (bQ ((((s.x%64:Nat):Int):Rat)).num.natAbs),.bool false,.string (dm ((((s.x%64:Nat):Int):Rat)))]) (u:= .agg #[.bool (decide (((((s.y%64:Nat):Int):Rat)).num<0)),.string (bQ ((((s.y%64:Nat):Int):Rat)).num.natAbs),.bool false,.string (dm ((((s.y%64:Nat):Int):Rat))),.bool (decide (((((s.x%64:Nat):Int):Rat)).num<0)),.string (bQ ((((s.x%64:Nat):Int):Rat)).num.natAbs),.bool false,.string (dm ((((s.x%64:Nat):Int):Rat)))]) rfl rfl rfl (fun _=>by kernel_rfl) ?_;refine A1 ?_;refine Ss 6 ?_;refine A2 ?_;exact Ni ⟨swS last s,(if_pos hk1).symm⟩ [0,1,2,3,4,5,6]
    ·have hk1:s.kind%8≠1:=by have e:=of_decide_eq_false hb3;omega
     refine A2 ?_;exact Ni ⟨last,(if_neg hk1).symm⟩ [0,1,2,3,4,5,6]
   rintro⟨f,hf⟩;show At _ ⟨133,[(1,dV g0),(3,az ob 0 o.length oc),(4,dV g1),(5,.bool alone),(6,bz i),(7,dV g2),(10,dV g3),(11,dV g4)],[⟨some gl,86,pre++ah kQ l,lN,false⟩,⟨some g0,24,[.int .u8 (t:Nat),.int .u8 (x:Nat),.int .u8 (y:Nat),az (some gl) pre.length l.length lc],4,true⟩,⟨some g1,137,GK last,12,true⟩,⟨ob,100,ah aQ o,oN,true⟩,⟨some g2,86,kQ s,4,true⟩,⟨some g3,137,GK (uk last s),12,true⟩,⟨some g4,137,GK f,12,true⟩]⟩ _;obtain⟨hfs,hft⟩:=qhX hsm hf;refine A5 ?_;refine(Dv ((s.kind%8:Nat):Int)) (congrArg some (eY _ _ rfl rfl)) ?_;refine A3 ?_;refine Cd ?_ ?_<;>intro hb4
   ·have hk0:s.kind%8≠0:=by have e:=hb4;simp at e;omega
    have hk0b:decide (((s.kind%8:Nat):Int)=0)=false:=(by exact decide_eq_false (by omega));refine rG (nt:=133) (X:=Nat) (fun gI=>[(1,dV g0),(3,az ob 0 o.length oc),(4,dV g1),(5,.bool alone),(6,bz i),(7,dV g2),(10,dV g3),(11,dV g4),(12,dV gI)]) (fun gI=>[⟨some gl,86,pre++ah kQ l,lN,false⟩,⟨some g0,24,[.int .u8 (t:Nat),.int .u8 (x:Nat),.int .u8 (y:Nat),az (some gl) pre.length l.length lc],4,true⟩,⟨some g1,137,GK last,12,true⟩,⟨ob,100,ah aQ o,oN,true⟩,⟨some g2,86,kQ s,4,true⟩,⟨some g3,137,GK (uk last s),12,true⟩,⟨some g4,137,GK f,12,true⟩,⟨some gI,61,bP (ul o alone f (uk last s)).i,20,true⟩]) ?_ ?_
    ·refine Dq [3000000] [0,1,3,4,6,7,8,2,5,9,10,11,12,13,14,15] ?_;refine A1 ?_;refine L4 6 0 ?_;refine A1 ?_;refine L4 5 0 ?_;refine A3 ?_;refine Pc (lg ((f.t:Rat))) ?_;refine Pc (lg (((uk last s).t:Rat))) ?_;refine A1 ?_;refine Rs 95 ?_ ?_<;>intro hb5
     ·have hoe:o.isEmpty=false:=by have e:=of_decide_eq_true hb5;cases o<;>simp at e ⊢
      refine A3 ?_;refine(Bu [(0,_),(1,_),(2,_)]) (Ur) ?_;refine Al 20 z61 (fun g5=>?_);refine Ss 7 ?_;refine A2 ?_;exact EE g5 ⟨rfl,rfl,rfl,rfl,rfl,rfl,rfl,rfl,rfl,trivial⟩ (au [some 0,some 1,some 2,some 3,some 4,some 5,some 6,some 7] ⟨pR,pR,pR,pR,pR,pR,pR,⟨_,rfl,aI (by rw[qfi hoe];rfl)⟩,trivial⟩ rfl rfl)
     ·have hoe:o.isEmpty=true:=by have e:=of_decide_eq_false hb5;cases o<;>simp at e ⊢
      refine A3 ?_;refine(Bu [(0,_),(1,_),(2,_)]) (Ur) ?_;refine Al 20 z61 (fun g5=>?_);refine Ss 7 ?_;refine A2 ?_;exact EE g5 ⟨rfl,rfl,rfl,rfl,rfl,rfl,rfl,rfl,rfl,trivial⟩ (au [some 0,some 1,some 2,some 3,some 4,some 5,some 6,some 7] ⟨pR,pR,pR,pR,pR,pR,pR,⟨_,rfl,aI (by rw[qfj hoe];rfl)⟩,trivial⟩ rfl rfl)
    rintro gI;show At _ ⟨133,[(1,dV g0),(3,az ob 0 o.length oc),(4,dV g1),(5,.bool alone),(6,bz i),(7,dV g2),(10,dV g3),(11,dV g4),(12,dV gI)],[⟨some gl,86,pre++ah kQ l,lN,false⟩,⟨some g0,24,[.int .u8 (t:Nat),.int .u8 (x:Nat),.int .u8 (y:Nat),az (some gl) pre.length l.length lc],4,true⟩,⟨some g1,137,GK last,12,true⟩,⟨ob,100,ah aQ o,oN,true⟩,⟨some g2,86,kQ s,4,true⟩,⟨some g3,137,GK (uk last s),12,true⟩,⟨some g4,137,GK f,12,true⟩,⟨some gI,61,bP (ul o alone f (uk last s)).i,20,true⟩]⟩ _;refine qQ (l':=[⟨_,_,_,_,_,_⟩,⟨_,_,_,_,_,_⟩,⟨_,_,_,_,_,_⟩]) [2000000] [1,2,3] [0,4,5,6,7,8] mixed (by kernel_rfl) rfl ?_;refine yB 7 0 ?_;refine ut 6 0 ?_;refine ut 5 0 ?_;refine A1 ?_;refine aJ [0,4] (by kernel_rfl) ⟨⟨_,rfl,?_⟩,⟨_,rfl,?_⟩,trivial⟩
    ·refine A2 ?_;refine aJ [4] (by kernel_rfl) ⟨⟨_,rfl,?_⟩,trivial⟩
     ·refine Pc (zl (f.t:Rat) (f.x:Rat) (f.y:Rat) ((uk last s).t:Rat) ((uk last s).x:Rat) ((uk last s).y:Rat) (Xi hft) (Nat.le_trans hfs.t (by omega)) (Nat.le_trans hfs.x (by omega)) (Nat.le_trans hfs.y (by omega)) (Nat.le_trans hsn.t (by omega)) (Nat.le_trans hsn.x (by omega)) (Nat.le_trans hsn.y (by omega))) ?_;refine A1 ?_;refine aJ [5] (by kernel_rfl) ⟨⟨_,rfl,?_⟩,trivial⟩
      ·refine(Bu [(0,_),(1,_)]) (rE) ?_;refine A1 ?_;refine aJ [6] (by kernel_rfl) ⟨⟨_,rfl,?_⟩,trivial⟩
       ·refine(Bl 36 [(0,_)]) (uI) (fun g5=>?_);refine A1 ?_;refine aJ [7] (by kernel_rfl) ⟨⟨_,rfl,?_⟩,trivial⟩
        ·refine(Qa (s:=36) (len:=o.length) (n2:=1) 3 8 (fun r=>[_,_,_,⟨some r.g,100,ah aQ o++aQ (ul o alone f (uk last s)),r.n,true⟩,_,_,_,_,_]) JP CE) (aC.length o) h3 h4 (aC.one (ul o alone f (uk last s))) (fun r=>?_);refine A1 ?_;refine aJ [8] (by kernel_rfl) ⟨⟨_,rfl,?_⟩,trivial⟩
         ·refine A2 ?_;refine jU rfl ?_;refine A5 ?_;refine(Dv ((s.kind%8:Nat):Int)) (congrArg some (eY _ _ rfl rfl)) ?_;refine A5 ?_;refine ut 5 0 ?_;refine Ss 2 ?_;refine A5 ?_;refine Ar (((i+1:Nat):Int)) ?_;refine A3 ?_;exact Nl ⟨⟨i+1,uk last s,false,o++[ul o alone f (uk last s)],some r.g,r.n,r.cap⟩,hlt,hsn,by rw[hI];exact Xj hx hk0 hf,by rw[List.length_append];exact Nat.succ_le_succ ho,by rw[List.length_append];exact r.h,r.hn⟩ (hμ:=(by show l.length-(i+1)<l.length-i;omega)) (ht:=⟨rfl,(aB rfl (by rw[List.length_append];rfl)),rfl,(aB rfl (congrArg Value.bool hk0b)),rfl,trivial⟩) (hL:=(au [some 0,some 1,some 2,some 3] ⟨pR,pR,pR,⟨_,rfl,aI (by rw[bH])⟩,trivial⟩ rfl rfl))
    ·refine Pc (zl (f.t:Rat) (f.x:Rat) (f.y:Rat) ((uk last s).t:Rat) ((uk last s).x:Rat) ((uk last s).y:Rat) (Xi hft) (Nat.le_trans hfs.t (by omega)) (Nat.le_trans hfs.x (by omega)) (Nat.le_trans hfs.y (by omega)) (Nat.le_trans hsn.t (by omega)) (Nat.le_trans hsn.x (by omega)) (Nat.le_trans hsn.y (by omega))) ?_;refine A1 ?_;refine aJ [0,5] (by kernel_rfl) ⟨⟨_,rfl,?_⟩,⟨_,rfl,?_⟩,trivial⟩
     ·refine A2 ?_;refine aJ [5] (by kernel_rfl) ⟨⟨_,rfl,?_⟩,trivial⟩
      ·refine(Bu [(0,_),(1,_)]) (rE) ?_;refine A1 ?_;refine aJ [6] (by kernel_rfl) ⟨⟨_,rfl,?_⟩,trivial⟩
       ·refine(Bl 36 [(0,_)]) (uI) (fun g5=>?_);refine A1 ?_;refine aJ [7] (by kernel_rfl) ⟨⟨_,rfl,?_⟩,trivial⟩
        ·refine(Qa (s:=36) (len:=o.length) (n2:=1) 3 8 (fun r=>[_,_,_,⟨some r.g,100,ah aQ o++aQ (ul o alone f (uk last s)),r.n,true⟩,_,_,_,_,_]) JP CE) (aC.length o) h3 h4 (aC.one (ul o alone f (uk last s))) (fun r=>?_);refine A1 ?_;refine aJ [8] (by kernel_rfl) ⟨⟨_,rfl,?_⟩,trivial⟩
         ·refine A2 ?_;refine jU rfl ?_;refine A5 ?_;refine(Dv ((s.kind%8:Nat):Int)) (congrArg some (eY _ _ rfl rfl)) ?_;refine A5 ?_;refine ut 5 0 ?_;refine Ss 2 ?_;refine A5 ?_;refine Ar (((i+1:Nat):Int)) ?_;refine A3 ?_;exact Nl ⟨⟨i+1,uk last s,false,o++[ul o alone f (uk last s)],some r.g,r.n,r.cap⟩,hlt,hsn,by rw[hI];exact Xj hx hk0 hf,by rw[List.length_append];exact Nat.succ_le_succ ho,by rw[List.length_append];exact r.h,r.hn⟩ (hμ:=(by show l.length-(i+1)<l.length-i;omega)) (ht:=⟨rfl,(aB rfl (by rw[List.length_append];rfl)),rfl,(aB rfl (congrArg Value.bool hk0b)),rfl,trivial⟩) (hL:=(au [some 0,some 1,some 2,some 3] ⟨pR,pR,pR,⟨_,rfl,aI (by rw[bH])⟩,trivial⟩ rfl rfl))
     ·refine(Bu [(0,_),(1,_)]) (rE) ?_;refine A1 ?_;refine aJ [0,6] (by kernel_rfl) ⟨⟨_,rfl,?_⟩,⟨_,rfl,?_⟩,trivial⟩
      ·refine A2 ?_;refine aJ [6] (by kernel_rfl) ⟨⟨_,rfl,?_⟩,trivial⟩
       ·refine(Bl 36 [(0,_)]) (uI) (fun g5=>?_);refine A1 ?_;refine aJ [7] (by kernel_rfl) ⟨⟨_,rfl,?_⟩,trivial⟩
        ·refine(Qa (s:=36) (len:=o.length) (n2:=1) 3 8 (fun r=>[_,_,_,⟨some r.g,100,ah aQ o++aQ (ul o alone f (uk last s)),r.n,true⟩,_,_,_,_,_]) JP CE) (aC.length o) h3 h4 (aC.one (ul o alone f (uk last s))) (fun r=>?_);refine A1 ?_;refine aJ [8] (by kernel_rfl) ⟨⟨_,rfl,?_⟩,trivial⟩
         ·refine A2 ?_;refine jU rfl ?_;refine A5 ?_;refine(Dv ((s.kind%8:Nat):Int)) (congrArg some (eY _ _ rfl rfl)) ?_;refine A5 ?_;refine ut 5 0 ?_;refine Ss 2 ?_;refine A5 ?_;refine Ar (((i+1:Nat):Int)) ?_;refine A3 ?_;exact Nl ⟨⟨i+1,uk last s,false,o++[ul o alone f (uk last s)],some r.g,r.n,r.cap⟩,hlt,hsn,by rw[hI];exact Xj hx hk0 hf,by rw[List.length_append];exact Nat.succ_le_succ ho,by rw[List.length_append];exact r.h,r.hn⟩ (hμ:=(by show l.length-(i+1)<l.length-i;omega)) (ht:=⟨rfl,(aB rfl (by rw[List.length_append];rfl)),rfl,(aB rfl (congrArg Value.bool hk0b)),rfl,trivial⟩) (hL:=(au [some 0,some 1,some 2,some 3] ⟨pR,pR,pR,⟨_,rfl,aI (by rw[bH])⟩,trivial⟩ rfl rfl))
      ·refine(Bl 36 [(0,_)]) (uI) (fun g5=>?_);refine A1 ?_;refine aJ [0] (by kernel_rfl) ⟨⟨_,rfl,?_⟩,trivial⟩
       ·refine A2 ?_;refine aJ [7] (by kernel_rfl) ⟨⟨_,rfl,?_⟩,trivial⟩
        ·refine(Qa (s:=36) (len:=o.length) (n2:=1) 3 8 (fun r=>[_,_,_,⟨some r.g,100,ah aQ o++aQ (ul o alone f (uk last s)),r.n,true⟩,_,_,_,_,_]) JP CE) (aC.length o) h3 h4 (aC.one (ul o alone f (uk last s))) (fun r=>?_);refine A1 ?_;refine aJ [8] (by kernel_rfl) ⟨⟨_,rfl,?_⟩,trivial⟩
         ·refine A2 ?_;refine jU rfl ?_;refine A5 ?_;refine(Dv ((s.kind%8:Nat):Int)) (congrArg some (eY _ _ rfl rfl)) ?_;refine A5 ?_;refine ut 5 0 ?_;refine Ss 2 ?_;refine A5 ?_;refine Ar (((i+1:Nat):Int)) ?_;refine A3 ?_;exact Nl ⟨⟨i+1,uk last s,false,o++[ul o alone f (uk last s)],some r.g,r.n,r.cap⟩,hlt,hsn,by rw[hI];exact Xj hx hk0 hf,by rw[List.length_append];exact Nat.succ_le_succ ho,by rw[List.length_append];exact r.h,r.hn⟩ (hμ:=(by show l.length-(i+1)<l.length-i;omega)) (ht:=⟨rfl,(aB rfl (by rw[List.length_append];rfl)),rfl,(aB rfl (congrArg Value.bool hk0b)),rfl,trivial⟩) (hL:=(au [some 0,some 1,some 2,some 3] ⟨pR,pR,pR,⟨_,rfl,aI (by rw[bH])⟩,trivial⟩ rfl rfl))
   ·have hk0:s.kind%8=0:=by have e:=hb4;simp at e;omega
    have hk0b:decide (((s.kind%8:Nat):Int)=0)=true:=(by exact decide_eq_true (by omega));refine A6 ?_;refine(Dv ((s.kind%8:Nat):Int)) (congrArg some (eY _ _ rfl rfl)) ?_;refine A5 ?_;refine ut 5 0 ?_;refine Ss 2 ?_;refine A5 ?_;refine Ar (((i+1:Nat):Int)) ?_;refine A3 ?_;exact Nl ⟨⟨i+1,uk last s,true,o,ob,oN,oc⟩,hlt,hsn,by rw[hI];exact qb4 hx hk0,Nat.le_succ_of_le ho,h3,h4⟩ (hμ:=(by show l.length-(i+1)<l.length-i;omega)) (ht:=⟨rfl,rfl,rfl,(aB rfl (congrArg Value.bool hk0b)),rfl,trivial⟩) (hL:=eG.auto)
  ·exact absurd (of_decide_eq_false hb2) (by omega)
 ·have hge:i=l.length:=(by have:=of_decide_eq_false hb1;omega);subst hge;refine MW ?_;refine Cd ?_ ?_<;>intro hb2
  ·have hal:alone=true:=hb2;have hr:GM t x y l=o++[lL last]:=by rw[hI,Xe,hal];rfl
   have hT:iF t x y l=qL (o++[lL last]):=(by rw[yz h6,hr]);have hq1:qH jE (o++[lL last]):=hr▸KY;have hq2:Go.Via.Ends (SmE 2) (o++[lL last]):=hr▸GN h6;have hq3:=KZ (t:=t) (x:=x) (y:=y) h6;rw[hr] at hq3;have hq4:∀u∈(o++[lL last]),jV u.i<=1000∧jo u.f<=1000:=hr▸Xh h6;refine A3 ?_;refine L4 2 0 ?_;refine Pc (lg ((last.t:Rat))) ?_;refine Al 9 O5 (fun g2=>?_);refine Ss 4 ?_;refine A2 ?_;refine qQ (l':=[⟨_,_,_,_,_,_⟩,⟨_,_,_,_,_,_⟩,⟨_,_,_,_,_,_⟩,⟨_,_,_,_,_,_⟩,⟨_,_,_,_,_,_⟩]) [2000000] [1,2,3,4,5] [0,6,7,8,9,10] mixed (by kernel_rfl) rfl ?_;refine L9 4 0 ?_;refine L9 4 0 ?_;refine(Bu [(0,_),(1,_)]) (JM) ?_;refine A1 ?_;refine L8 2 4 ?_;refine A1 ?_;refine aJ [0,6] (by kernel_rfl) ⟨⟨_,rfl,?_⟩,⟨_,rfl,?_⟩,trivial⟩
   ·refine A2 ?_;refine aJ [6] (by kernel_rfl) ⟨⟨_,rfl,?_⟩,trivial⟩
    ·refine Pc (C9 (last.x:Rat) (last.y:Rat)) ?_;refine A1 ?_;refine aJ [7] (by kernel_rfl) ⟨⟨_,rfl,?_⟩,trivial⟩
     ·refine(Bu [(0,_),(1,_)]) (rE) ?_;refine A1 ?_;refine aJ [8] (by kernel_rfl) ⟨⟨_,rfl,?_⟩,trivial⟩
      ·refine(Bl 36 [(0,_)]) (uI) (fun g3=>?_);refine A1 ?_;refine aJ [9] (by kernel_rfl) ⟨⟨_,rfl,?_⟩,trivial⟩
       ·refine(Qa (s:=36) (len:=o.length) (n2:=1) 3 5 (fun r=>[_,_,_,⟨some r.g,100,ah aQ o++aQ (lL last),r.n,true⟩,_,_]) JP CE) (aC.length o) h3 h4 (aC.one (lL last)) (fun r=>?_);refine A1 ?_;refine aJ [10] (by kernel_rfl) ⟨⟨_,rfl,?_⟩,trivial⟩
        ·refine A2 ?_;refine jU rfl ?_;refine A4 ?_;refine iO [_] [3] rfl rfl (by show _=[some _];rw[List.length_append];rfl) (nP (Ov 2) (o++[lL last]) (some r.g) r.n r.cap (by rw[List.length_append];exact r.h) (by omega) hq1 hq2 hq3.1 (by omega) hq4) ⟨⟨_,rfl,by rw[<-bH];exact mX⟩,trivial⟩ rfl (.inr fun x b hb=>by rw[List.mem_singleton.1 hb]) (fun z=>?_);obtain⟨nb,nN,nc,hnc⟩:=z;refine CB ?_;refine aH rfl (aj rfl) (fun w hL=>⟨⟨nb,nN,nc,by rw[hT];exact hnc⟩,?_,hL.picks [some 6] ⟨⟨_,rfl,aI (by rw[show ah aQ (iF t x y l)=_ from congrArg _ hT])⟩,trivial⟩ rfl rfl⟩);show Ending.returned (az nb 0 _ nc)=Ending.returned (az nb 0 (iF t x y l).length nc);rw[hT]
   ·refine Pc (C9 (last.x:Rat) (last.y:Rat)) ?_;refine A1 ?_;refine aJ [0,7] (by kernel_rfl) ⟨⟨_,rfl,?_⟩,⟨_,rfl,?_⟩,trivial⟩
    ·refine A2 ?_;refine aJ [7] (by kernel_rfl) ⟨⟨_,rfl,?_⟩,trivial⟩
     ·refine(Bu [(0,_),(1,_)]) (rE) ?_;refine A1 ?_;refine aJ [8] (by kernel_rfl) ⟨⟨_,rfl,?_⟩,trivial⟩
      ·refine(Bl 36 [(0,_)]) (uI) (fun g3=>?_);refine A1 ?_;refine aJ [9] (by kernel_rfl) ⟨⟨_,rfl,?_⟩,trivial⟩
       ·refine(Qa (s:=36) (len:=o.length) (n2:=1) 3 5 (fun r=>[_,_,_,⟨some r.g,100,ah aQ o++aQ (lL last),r.n,true⟩,_,_]) JP CE) (aC.length o) h3 h4 (aC.one (lL last)) (fun r=>?_);refine A1 ?_;refine aJ [10] (by kernel_rfl) ⟨⟨_,rfl,?_⟩,trivial⟩
        ·refine A2 ?_;refine jU rfl ?_;refine A4 ?_;refine iO [_] [3] rfl rfl (by show _=[some _];rw[List.length_append];rfl) (nP (Ov 2) (o++[lL last]) (some r.g) r.n r.cap (by rw[List.length_append];exact r.h) (by omega) hq1 hq2 hq3.1 (by omega) hq4) ⟨⟨_,rfl,by rw[<-bH];exact mX⟩,trivial⟩ rfl (.inr fun x b hb=>by rw[List.mem_singleton.1 hb]) (fun z=>?_);obtain⟨nb,nN,nc,hnc⟩:=z;refine CB ?_;refine aH rfl (aj rfl) (fun w hL=>⟨⟨nb,nN,nc,by rw[hT];exact hnc⟩,?_,hL.picks [some 6] ⟨⟨_,rfl,aI (by rw[show ah aQ (iF t x y l)=_ from congrArg _ hT])⟩,trivial⟩ rfl rfl⟩);show Ending.returned (az nb 0 _ nc)=Ending.returned (az nb 0 (iF t x y l).length nc);rw[hT]
    ·refine(Bu [(0,_),(1,_)]) (rE) ?_;refine A1 ?_;refine aJ [0,8] (by kernel_rfl) ⟨⟨_,rfl,?_⟩,⟨_,rfl,?_⟩,trivial⟩
     ·refine A2 ?_;refine aJ [8] (by kernel_rfl) ⟨⟨_,rfl,?_⟩,trivial⟩
      ·refine(Bl 36 [(0,_)]) (uI) (fun g3=>?_);refine A1 ?_;refine aJ [9] (by kernel_rfl) ⟨⟨_,rfl,?_⟩,trivial⟩
       ·refine(Qa (s:=36) (len:=o.length) (n2:=1) 3 5 (fun r=>[_,_,_,⟨some r.g,100,ah aQ o++aQ (lL last),r.n,true⟩,_,_]) JP CE) (aC.length o) h3 h4 (aC.one (lL last)) (fun r=>?_);refine A1 ?_;refine aJ [10] (by kernel_rfl) ⟨⟨_,rfl,?_⟩,trivial⟩
        ·refine A2 ?_;refine jU rfl ?_;refine A4 ?_;refine iO [_] [3] rfl rfl (by show _=[some _];rw[List.length_append];rfl) (nP (Ov 2) (o++[lL last]) (some r.g) r.n r.cap (by rw[List.length_append];exact r.h) (by omega) hq1 hq2 hq3.1 (by omega) hq4) ⟨⟨_,rfl,by rw[<-bH];exact mX⟩,trivial⟩ rfl (.inr fun x b hb=>by rw[List.mem_singleton.1 hb]) (fun z=>?_);obtain⟨nb,nN,nc,hnc⟩:=z;refine CB ?_;refine aH rfl (aj rfl) (fun w hL=>⟨⟨nb,nN,nc,by rw[hT];exact hnc⟩,?_,hL.picks [some 6] ⟨⟨_,rfl,aI (by rw[show ah aQ (iF t x y l)=_ from congrArg _ hT])⟩,trivial⟩ rfl rfl⟩);show Ending.returned (az nb 0 _ nc)=Ending.returned (az nb 0 (iF t x y l).length nc);rw[hT]
     ·refine(Bl 36 [(0,_)]) (uI) (fun g3=>?_);refine A1 ?_;refine aJ [0] (by kernel_rfl) ⟨⟨_,rfl,?_⟩,trivial⟩
      ·refine A2 ?_;refine aJ [9] (by kernel_rfl) ⟨⟨_,rfl,?_⟩,trivial⟩
       ·refine(Qa (s:=36) (len:=o.length) (n2:=1) 3 5 (fun r=>[_,_,_,⟨some r.g,100,ah aQ o++aQ (lL last),r.n,true⟩,_,_]) JP CE) (aC.length o) h3 h4 (aC.one (lL last)) (fun r=>?_);refine A1 ?_;refine aJ [10] (by kernel_rfl) ⟨⟨_,rfl,?_⟩,trivial⟩
        ·refine A2 ?_;refine jU rfl ?_;refine A4 ?_;refine iO [_] [3] rfl rfl (by show _=[some _];rw[List.length_append];rfl) (nP (Ov 2) (o++[lL last]) (some r.g) r.n r.cap (by rw[List.length_append];exact r.h) (by omega) hq1 hq2 hq3.1 (by omega) hq4) ⟨⟨_,rfl,by rw[<-bH];exact mX⟩,trivial⟩ rfl (.inr fun x b hb=>by rw[List.mem_singleton.1 hb]) (fun z=>?_);obtain⟨nb,nN,nc,hnc⟩:=z;refine CB ?_;refine aH rfl (aj rfl) (fun w hL=>⟨⟨nb,nN,nc,by rw[hT];exact hnc⟩,?_,hL.picks [some 6] ⟨⟨_,rfl,aI (by rw[show ah aQ (iF t x y l)=_ from congrArg _ hT])⟩,trivial⟩ rfl rfl⟩);show Ending.returned (az nb 0 _ nc)=Ending.returned (az nb 0 (iF t x y l).length nc);rw[hT]
  ·have hal:alone=false:=hb2;have hr:GM t x y l=o:=by rw[hI,Xe,hal];rfl
   have hT:iF t x y l=qL (o):=(by rw[yz h6,hr]);have hq1:qH jE (o):=hr▸KY;have hq2:Go.Via.Ends (SmE 2) (o):=hr▸GN h6;have hq3:=KZ (t:=t) (x:=x) (y:=y) h6;rw[hr] at hq3;have hq4:∀u∈(o),jV u.i<=1000∧jo u.f<=1000:=hr▸Xh h6;refine A5 ?_;refine(Sc [3]) (nP (Ov 2) o ob oN oc h3 (by omega) hq1 hq2 hq3.1 (by omega) hq4) (fun z=>?_);obtain⟨nb,nN,nc,hnc⟩:=z;refine CB ?_;refine aH rfl (aj rfl) (fun w hL=>⟨⟨nb,nN,nc,by rw[hT];exact hnc⟩,?_,hL.picks [some 4] ⟨⟨_,rfl,aI (by rw[show ah aQ (iF t x y l)=_ from congrArg _ hT])⟩,trivial⟩ rfl rfl⟩);show Ending.returned (az nb 0 _ nc)=Ending.returned (az nb 0 (iF t x y l).length nc);rw[hT]
end Go.Proofs.YtaffcpfhedadhaaGreatDoor
namespace Go.Via
open Go
def YX{α:Type}{c:α->List Value}{k:Nat}(h:jh α c k)(hk:0<k)(pre:List Value){l:List α}{b:Option Nat}(hb:b=none->pre++ah c l=[]):l.length=0∨∃g,b=some g:=
 sS h hk fun e=>(List.append_eq_nil_iff.1 (hb e)).2
def qcc{x y:Int}(m n:Nat)(hm:m<256)(hx:x=(m:Int))(hy:y=(n:Int)):IntKind.u8.wrap (x.tdiv y)=((m/n:Nat):Int):=by
 subst hx;subst hy;rw[show(m:Int).tdiv (n:Int)=((m/n:Nat):Int) from(Int.ofNat_tdiv m n).symm];have h:=Nat.div_le_self m n
 generalize m/n=q at h ⊢
 simp[IntKind.wrap,IntKind.bits,IntKind.signed];omega
def TJ{x y:Int}(m n:Nat)(hx:x=(m:Int))(hy:y=(n:Int)):IntKind.u8.wrap (x+y)=(((m+n)%256:Nat):Int):=by
 subst hx;subst hy;simp[IntKind.wrap,IntKind.bits,IntKind.signed]
def FD(ch:Nat)(s:sV):sV:=⟨s.time,(s.x+ch/16)%256,(s.y+1)%256,s.kind⟩
def chS(ch:Nat)(l:List sV):List sV:=if 0<l.length∧1<ch%4 then(match l[ch/4%l.length]? with
 |some s=>l.set (ch/4%l.length) (FD ch s)
 |none=>l) else l
theorem Qn(ch:Nat)(l:List sV):(chS ch l).length=l.length:=by
 unfold chS
 split
 ·split
  ·rw[List.length_set]
  ·rfl
 ·rfl
def qh0{ch:Nat}{l:List sV}(h:∀s∈l,YT s):∀s∈chS ch l,YT s:=fun s hs=>by
 unfold chS at hs
 split at hs
 ·split at hs
  ·rename_i u hu
   rcases List.mem_or_eq_of_mem_set hs with e|e
   ·exact h s e
   ·have hu':=h u (List.mem_of_getElem? hu);subst e;exact⟨hu'.1,Nat.mod_lt _ (by decide),Nat.mod_lt _ (by decide),hu'.2.2.2⟩
  ·exact h s hs
 ·exact h s hs
def qfr{ch k:Nat}{l:List sV}{s:sV}(h0:0<l.length)(h1:1<ch%4)(hk:k=ch/4%l.length)(hx:l[k]? =some s):chS ch l=(l.set k ⟨s.time,(s.x+ch/16)%256,s.y,s.kind⟩).set k (FD ch s):=by
 subst hk;unfold chS;rw[if_pos ⟨h0,h1⟩,hx,List.set_set]
theorem qcd{ch:Nat}{l:List sV}(h:¬(0<l.length∧1<ch%4)):chS ch l=l:=by unfold chS;rw[if_neg h]
def qJ(ta xa ya:Nat)(a:List sV)(tb xb yb:Nat)(b:List sV)(ch:Nat):List PU:=if 0<ch%4 then iF ta xa ya (chS ch a) else iF tb xb yb b
section
variable{ta xa ya tb xb yb ch:Nat}{a b:List sV}
def qfs(h:¬0<ch%4):qJ ta xa ya a tb xb yb b ch=iF tb xb yb b:=by unfold qJ;rw[if_neg h]
def Lt(h:0<ch%4):qJ ta xa ya a tb xb yb b ch=iF ta xa ya (chS ch a):=by unfold qJ;rw[if_pos h]
def qce(ha:a.length<=6)(hb:b.length<=6):(qJ ta xa ya a tb xb yb b ch).length<=21:=by
 unfold qJ;split
 ·exact Lc (by rw[Qn];exact ha)
 ·exact Lc hb
def qcf(ha:a.length<=6)(hb:b.length<=6):Hw (qJ ta xa ya a tb xb yb b ch):=by
 unfold qJ;split
 ·exact La (by rw[Qn];exact ha)
 ·exact La hb
def qcg:FB (iF ta xa ya a) (qJ ta xa ya a tb xb yb b ch):=by
 unfold qJ;split
 ·exact TC
 ·exact TC
end
end Go.Via
namespace Go.Proofs.YtaffcpfhedadhaaGreatDoor
open Go Go.RowKit Go.Via
def Lu(ta xa ya tb xb yb ch:Nat)(hta:ta<256)(hxa:xa<256)(hya:ya<256)(htb:tb<256)(hxb:xb<256)(hyb:yb<256)(hch:ch<256)(a:List sV)(ab:Option Nat)(pa:List Value)(aN ac:Nat)(hac:a.length<=ac)(ha6:a.length<=6)(has:∀s∈a,YT s)(b:List sV)(bb:Option Nat)(pb:List Value)(bN bc:Nat)(hbc:b.length<=bc)(hb6:b.length<=6)(hbs:∀s∈b,YT s):dh Tryz.prog 13 [⟨ab,86,pa++ah kQ a,aN,false⟩,⟨bb,86,pb++ah kQ b,bN,false⟩] [.agg #[.int .u8 (ta:Nat),.int .u8 (xa:Nat),.int .u8 (ya:Nat),az ab pa.length a.length ac,.int .u8 (tb:Nat),.int .u8 (xb:Nat),.int .u8 (yb:Nat),az bb pb.length b.length bc,.int .u8 (ch:Nat)]] (SR (iF ta xa ya a).length×SR (qJ ta xa ya a tb xb yb b ch).length) (fun z=> .tuple #[z.1.v,z.2.v]) (fun z=>[⟨z.1.b,100,ah aQ (iF ta xa ya a),z.1.n,true⟩,⟨z.2.b,100,ah aQ (qJ ta xa ya a tb xb yb b ch),z.2.n,true⟩]):=by
 refine Md 65 Tryz.func13 fun w hL0=>?_;refine A2 ?_;refine Bp 9 (fun g0=>?_);refine A7 ?_;refine L4 2 4 ?_;refine Al 4 z24 (fun g1=>?_);refine Ss 3 ?_;refine A7 ?_;refine(Dv ((ch%4:Nat):Int)) (congrArg some (eY _ _ rfl rfl)) ?_;refine A3 ?_;refine Cd ?_ ?_<;>intro hb0
 ·have hch:0<ch%4:=by have e:=of_decide_eq_true hb0;omega
  refine A3 ?_;refine L4 2 0 ?_;refine Ss 3 ?_;refine A3 ?_;refine rH 0 rfl (fun hba=>?_);have hab:=YX kJ (by decide) pa hba;refine A1 ?_;refine(Bl 0 []) (qgJ) (fun g2=>?_);refine A3 ?_;refine fK (s:=4) (len:=0) 4 0 (ah kQ a) (fun r=>[_,_,_,_,⟨r.b,86,ah kQ a,r.n,true⟩]) u22 qkF rfl rfl rfl rfl rfl rfl rfl rfl rfl rfl rfl (Nat.le_refl _) (Nat.le_refl _) hab (by rw[List.drop_left];exact List.take_of_length_le (by rw[kJ.length];exact Nat.le_refl _)) (kJ.length a) (kJ.ones _) (by omega) (fun _=>rfl) (fun r=>?_);obtain⟨nb,nN,nc,hnc,hnN⟩:=r;refine aT 19 (az nb 0 a.length nc) rfl (congrArg (fun z=>az nb 0 z nc) (Nat.zero_add _)) ?_;refine A1 ?_;refine Ss 3 ?_;refine zT ?_;refine Rs 26 ?_ ?_<;>intro hb1
  ·have hl0:0<a.length:=by have e:=of_decide_eq_true hb1;omega
   refine A2 ?_;refine(Dv ((ch%4:Nat):Int)) (congrArg some (eY _ _ rfl rfl)) ?_;refine A4 ?_;refine Cd ?_ ?_<;>intro hb2
   ·have hc1:1<ch%4:=by have e:=of_decide_eq_true hb2;omega
    obtain⟨k,hk⟩:∃k,k=ch/4%a.length:=⟨_,rfl⟩;have hkl:k<a.length:=hk▸Nat.mod_lt _ hl0;obtain⟨s,hx⟩:∃s,a[k]? =some s:=⟨a[k],List.getElem?_eq_getElem hkl⟩;obtain⟨hs1,hs2,hs3,hs4⟩:=has s (List.mem_of_getElem? hx);have hcA:=qfr hl0 hc1 hk hx;have hW:qJ ta xa ya a tb xb yb b ch=iF ta xa ya ((a.set k ⟨s.time,(s.x+ch/16)%256,s.y,s.kind⟩).set k (FD ch s)):=(Lt hch).trans (by rw[hcA]);have hAo:∀v∈((a.set k ⟨s.time,(s.x+ch/16)%256,s.y,s.kind⟩).set k (FD ch s)),YT v:=fun v hv=>qh0 has v (by rw[hcA];exact hv)
    have hAl:((a.set k ⟨s.time,(s.x+ch/16)%256,s.y,s.kind⟩).set k (FD ch s)).length=a.length:=(by simp only[List.length_set]);refine A1 ?_;refine fD 4 rfl (kJ.ne (by decide) hl0) (fun hbs=>?_);obtain⟨gn,hgn⟩:=Option.isSome_iff_exists.1 hbs;replace hgn:nb=some gn:=hgn;subst hgn;refine Di [] ?_;refine A4 ?_;refine(Dv ((ch/4:Nat):Int)) (by exact(congrArg some (qcc _ _ (by omega) rfl rfl))) ?_;refine(Cv ((ch/4:Nat):Int) u5 u3) (by exact(wi (by omega) (by omega) rfl)) ?_;refine A1 ?_;refine(Dv (k:Int)) (congrArg some ((eY _ _ rfl rfl).trans (congrArg Nat.cast hk.symm))) ?_;refine ai 4 ((k)*4) u22 qgC rfl rfl rfl rfl rfl (by omega) (by omega) (kJ.ne (by decide) (by omega)) (by show 0+Int.toNat _*4=_;omega) ?_;refine A3 ?_;let sX:List (Nat×Value)->List (Nat×Value):=fun l=>(1,dV g0)::(4,dV g1)::l;let sY:List aG->List aG:=fun l=>⟨ab,86,pa++ah kQ a,aN,false⟩::⟨bb,86,pb++ah kQ b,bN,false⟩::⟨some g0,26,[.int .u8 (ta:Nat),.int .u8 (xa:Nat),.int .u8 (ya:Nat),az ab pa.length a.length ac,.int .u8 (tb:Nat),.int .u8 (xb:Nat),.int .u8 (yb:Nat),az bb pb.length b.length bc,.int .u8 (ch:Nat)],9,true⟩::⟨some g1,24,[.int .u8 (ta:Nat),.int .u8 (xa:Nat),.int .u8 (ya:Nat),az (some gn) 0 a.length nc],4,true⟩::l;refine Bv (nt:=65) (Z:=Unit) (fun _=>sX []) (fun _=>sY [⟨some gn,86,ah kQ ((a.set k ⟨s.time,(s.x+ch/16)%256,s.y,s.kind⟩).set k (FD ch s)),nN,true⟩]) 21 [0,1,2,3,4,5,6,7,8,9,10,11,12,13,14,15,16,17,18,19,20] mixed (by kernel_rfl) (fun hd0=>?_) ?_
    ·refine bK (nt:=65) (Z:=Unit) (fun _=>sX [(6,.pointer (some ⟨gn,k*4,none⟩)),(55,.int .u8 (((s.y+1)%256:Nat):Int)),(59,.pointer (some ⟨gn,k*4+2,none⟩))]) (fun _=>sY [⟨some gn,86,ah kQ (a.set k ⟨s.time,(s.x+ch/16)%256,s.y,s.kind⟩),nN,true⟩]) 1 [20] (fun z=>?_) (fun hd1=>?_)
     ·(try dsimp only);refine FN 20 ?_
      ·refine pO rfl 4 ((k)*4+2) [_,_,_,_,_] (ah kQ ((a.set k ⟨s.time,(s.x+ch/16)%256,s.y,s.kind⟩).set k (FD ch s))) rfl rfl rfl rfl Y2 rfl (by rw[Nat.ble_eq,kJ.length];show k*4+2+1<=(a.set k ⟨s.time,(s.x+ch/16)%256,s.y,s.kind⟩).length*4;(try simp only[List.length_set]);omega) rfl (kJ.setf (show(a.set k ⟨s.time,(s.x+ch/16)%256,s.y,s.kind⟩)[k]? =some ⟨s.time,(s.x+ch/16)%256,s.y,s.kind⟩ by rw[List.getElem?_set_self hkl]) rfl (by decide)) rfl ?_;refine A1 ?_;exact Nw hd0 () [0,1,2,3,4]
     refine bK (nt:=65) (Z:=Unit) (fun _=>sX [(6,.pointer (some ⟨gn,k*4,none⟩)),(42,.pointer (some ⟨gn,k*4,none⟩)),(50,.int .u8 (((s.x+ch/16)%256:Nat):Int)),(55,.int .u8 (((s.y+1)%256:Nat):Int)),(57,.pointer (some ⟨gn,k*4+1,none⟩))]) (fun _=>sY [⟨some gn,86,ah kQ a,nN,true⟩]) 4 [17,18,19,20] (fun z=>?_) (fun hd2=>?_)
     ·(try dsimp only);refine FN 17 ?_
      ·refine pO rfl 4 ((k)*4+1) [_,_,_,_,_] (ah kQ (a.set k ⟨s.time,(s.x+ch/16)%256,s.y,s.kind⟩)) rfl rfl rfl rfl Y2 rfl (by rw[Nat.ble_eq,kJ.length];show k*4+1+1<=(a).length*4;(try simp only[List.length_set]);omega) rfl (kJ.setf hx rfl (by decide)) rfl ?_;refine A1 ?_;refine Nt 18 ?_;refine A2 ?_;refine Nt 19 ?_;refine Fg ((k)*4) 2 ?_;refine A1 ?_;exact Nw hd1 () [0,1,2,3,4]
     refine bK (nt:=65) (Z:=Unit) (fun _=>sX [(6,.pointer (some ⟨gn,k*4,none⟩)),(41,.pointer (some ⟨gn,k*4,none⟩)),(42,.pointer (some ⟨gn,k*4,none⟩)),(45,.pointer (some ⟨gn,k*4+1,none⟩)),(49,.int .u8 ((ch/16:Nat):Int)),(55,.int .u8 (((s.y+1)%256:Nat):Int))]) (fun _=>sY [⟨some gn,86,ah kQ a,nN,true⟩]) 8 [5,9,15,16,17,18,19,20] (fun z=>?_) (fun hd3=>?_)
     ·(try dsimp only);refine FN 5 ?_
      ·refine aO (v:= .int .u8 s.x) 4 ((k)*4+1) _ rfl rfl rfl rfl Y2 (kJ.sub hx 1 1 (by decide)) rfl (by decide) rfl ?_;refine A1 ?_;refine Nt 9 ?_;refine(Aq (((s.x+ch/16)%256:Nat):Int)) (congrArg some (TJ _ _ rfl rfl)) ?_;refine A1 ?_;refine Nt 15 ?_;refine A2 ?_;refine Nt 16 ?_;refine Fg ((k)*4) 1 ?_;refine A1 ?_;exact Nw hd2 () [0,1,2,3,4]
     refine bK (nt:=65) (Z:=Unit) (fun _=>sX [(6,.pointer (some ⟨gn,k*4,none⟩)),(41,.pointer (some ⟨gn,k*4,none⟩)),(42,.pointer (some ⟨gn,k*4,none⟩)),(50,.int .u8 (((s.x+ch/16)%256:Nat):Int)),(53,.pointer (some ⟨gn,k*4+2,none⟩))]) (fun _=>sY [⟨some gn,86,ah kQ a,nN,true⟩]) 8 [13,14,15,16,17,18,19,20] (fun z=>?_) (fun hd4=>?_)
     ·(try dsimp only);refine FN 13 ?_
      ·refine aO (v:= .int .u8 s.y) 4 ((k)*4+2) _ rfl rfl rfl rfl Y2 (kJ.sub hx 2 1 (by decide)) rfl (by decide) rfl ?_;refine A1 ?_;refine Nt 14 ?_;refine(Aq (((s.y+1)%256:Nat):Int)) (congrArg some (TJ _ _ rfl rfl)) ?_;refine A1 ?_;refine Nt 15 ?_;refine A2 ?_;refine Nt 16 ?_;refine Fg ((k)*4) 1 ?_;refine A1 ?_;exact Nw hd2 () [0,1,2,3,4]
     refine bK (nt:=65) (Z:=Unit) (fun _=>sX [(6,.pointer (some ⟨gn,k*4,none⟩)),(41,.pointer (some ⟨gn,k*4,none⟩)),(42,.pointer (some ⟨gn,k*4,none⟩)),(46,.int .u8 ((s.x:Nat):Int)),(47,.pointer (some ⟨g0,8,none⟩)),(55,.int .u8 (((s.y+1)%256:Nat):Int))]) (fun _=>sY [⟨some gn,86,ah kQ a,nN,true⟩]) 9 [7,8,9,15,16,17,18,19,20] (fun z=>?_) (fun hd5=>?_)
     ·(try dsimp only);refine FN 7 ?_
      ·refine A2 ?_;refine Nt 8 ?_;refine(Dv ((ch/16:Nat):Int)) (by exact(congrArg some (qcc _ _ (by omega) rfl rfl))) ?_;refine A1 ?_;refine Nt 9 ?_;refine(Aq (((s.x+ch/16)%256:Nat):Int)) (congrArg some (TJ _ _ rfl rfl)) ?_;refine A1 ?_;refine Nt 15 ?_;refine A2 ?_;refine Nt 16 ?_;refine Fg ((k)*4) 1 ?_;refine A1 ?_;exact Nw hd2 () [0,1,2,3,4]
     refine bK (nt:=65) (Z:=Unit) (fun _=>sX [(6,.pointer (some ⟨gn,k*4,none⟩)),(41,.pointer (some ⟨gn,k*4,none⟩)),(42,.pointer (some ⟨gn,k*4,none⟩)),(45,.pointer (some ⟨gn,k*4+1,none⟩)),(47,.pointer (some ⟨g0,8,none⟩)),(55,.int .u8 (((s.y+1)%256:Nat):Int))]) (fun _=>sY [⟨some gn,86,ah kQ a,nN,true⟩]) 10 [5,7,8,9,15,16,17,18,19,20] (fun z=>?_) (fun hd6=>?_)
     ·(try dsimp only);refine cZ [5,7] (by kernel_rfl) rfl ⟨⟨_,rfl,?_⟩,⟨_,rfl,?_⟩,trivial⟩
      ·refine aO (v:= .int .u8 s.x) 4 ((k)*4+1) _ rfl rfl rfl rfl Y2 (kJ.sub hx 1 1 (by decide)) rfl (by decide) rfl ?_;refine A1 ?_;exact Nw hd5 () [0,1,2,3,4]
      ·refine A2 ?_;refine Nt 8 ?_;refine(Dv ((ch/16:Nat):Int)) (by exact(congrArg some (qcc _ _ (by omega) rfl rfl))) ?_;refine A1 ?_;exact Nw hd3 () [0,1,2,3,4]
     refine bK (nt:=65) (Z:=Unit) (fun _=>sX [(6,.pointer (some ⟨gn,k*4,none⟩)),(41,.pointer (some ⟨gn,k*4,none⟩)),(42,.pointer (some ⟨gn,k*4,none⟩)),(45,.pointer (some ⟨gn,k*4+1,none⟩)),(49,.int .u8 ((ch/16:Nat):Int)),(53,.pointer (some ⟨gn,k*4+2,none⟩))]) (fun _=>sY [⟨some gn,86,ah kQ a,nN,true⟩]) 10 [5,9,13,14,15,16,17,18,19,20] (fun z=>?_) (fun hd7=>?_)
     ·(try dsimp only);refine cZ [5,13] (by kernel_rfl) rfl ⟨⟨_,rfl,?_⟩,⟨_,rfl,?_⟩,trivial⟩
      ·refine aO (v:= .int .u8 s.x) 4 ((k)*4+1) _ rfl rfl rfl rfl Y2 (kJ.sub hx 1 1 (by decide)) rfl (by decide) rfl ?_;refine A1 ?_;refine Nt 9 ?_;refine(Aq (((s.x+ch/16)%256:Nat):Int)) (congrArg some (TJ _ _ rfl rfl)) ?_;refine A1 ?_;exact Nw hd4 () [0,1,2,3,4]
      ·refine aO (v:= .int .u8 s.y) 4 ((k)*4+2) _ rfl rfl rfl rfl Y2 (kJ.sub hx 2 1 (by decide)) rfl (by decide) rfl ?_;refine A1 ?_;refine Nt 14 ?_;refine(Aq (((s.y+1)%256:Nat):Int)) (congrArg some (TJ _ _ rfl rfl)) ?_;refine A1 ?_;exact Nw hd3 () [0,1,2,3,4]
     refine bK (nt:=65) (Z:=Unit) (fun _=>sX [(6,.pointer (some ⟨gn,k*4,none⟩)),(41,.pointer (some ⟨gn,k*4,none⟩)),(42,.pointer (some ⟨gn,k*4,none⟩)),(46,.int .u8 ((s.x:Nat):Int)),(47,.pointer (some ⟨g0,8,none⟩)),(53,.pointer (some ⟨gn,k*4+2,none⟩))]) (fun _=>sY [⟨some gn,86,ah kQ a,nN,true⟩]) 11 [7,8,9,13,14,15,16,17,18,19,20] (fun z=>?_) (fun hd8=>?_)
     ·(try dsimp only);refine cZ [7,13] (by kernel_rfl) rfl ⟨⟨_,rfl,?_⟩,⟨_,rfl,?_⟩,trivial⟩
      ·refine A2 ?_;refine Nt 8 ?_;refine(Dv ((ch/16:Nat):Int)) (by exact(congrArg some (qcc _ _ (by omega) rfl rfl))) ?_;refine A1 ?_;refine Nt 9 ?_;refine(Aq (((s.x+ch/16)%256:Nat):Int)) (congrArg some (TJ _ _ rfl rfl)) ?_;refine A1 ?_;exact Nw hd4 () [0,1,2,3,4]
      ·refine aO (v:= .int .u8 s.y) 4 ((k)*4+2) _ rfl rfl rfl rfl Y2 (kJ.sub hx 2 1 (by decide)) rfl (by decide) rfl ?_;refine A1 ?_;refine Nt 14 ?_;refine(Aq (((s.y+1)%256:Nat):Int)) (congrArg some (TJ _ _ rfl rfl)) ?_;refine A1 ?_;exact Nw hd5 () [0,1,2,3,4]
     refine Nt 0 ?_;refine A2 ?_;refine Nt 1 ?_;refine A2 ?_;refine Nt 2 ?_;refine A2 ?_;refine Nt 3 ?_;refine A2 ?_;refine Nt 4 ?_;refine Fg ((k)*4) 1 ?_;refine A1 ?_;refine Nt 6 ?_;refine Fg 0 8 ?_;refine A1 ?_;refine Nt 10 ?_;refine A2 ?_;refine Nt 11 ?_;refine A2 ?_;refine Nt 12 ?_;refine Fg ((k)*4) 2 ?_;refine A1 ?_;refine cZ [5,7,13] (by kernel_rfl) rfl ⟨⟨_,rfl,?_⟩,⟨_,rfl,?_⟩,⟨_,rfl,?_⟩,trivial⟩
     ·refine aO (v:= .int .u8 s.x) 4 ((k)*4+1) _ rfl rfl rfl rfl Y2 (kJ.sub hx 1 1 (by decide)) rfl (by decide) rfl ?_;refine A1 ?_;exact Nw hd8 () [0,1,2,3,4]
     ·refine A2 ?_;refine Nt 8 ?_;refine(Dv ((ch/16:Nat):Int)) (by exact(congrArg some (qcc _ _ (by omega) rfl rfl))) ?_;refine A1 ?_;exact Nw hd7 () [0,1,2,3,4]
     ·refine aO (v:= .int .u8 s.y) 4 ((k)*4+2) _ rfl rfl rfl rfl Y2 (kJ.sub hx 2 1 (by decide)) rfl (by decide) rfl ?_;refine A1 ?_;refine Nt 14 ?_;refine(Aq (((s.y+1)%256:Nat):Int)) (congrArg some (TJ _ _ rfl rfl)) ?_;refine A1 ?_;exact Nw hd6 () [0,1,2,3,4]
    intro _;show At _ ⟨65,[(1,dV g0),(4,dV g1)],[⟨ab,86,pa++ah kQ a,aN,false⟩,⟨bb,86,pb++ah kQ b,bN,false⟩,⟨some g0,26,[.int .u8 (ta:Nat),.int .u8 (xa:Nat),.int .u8 (ya:Nat),az ab pa.length a.length ac,.int .u8 (tb:Nat),.int .u8 (xb:Nat),.int .u8 (yb:Nat),az bb pb.length b.length bc,.int .u8 (ch:Nat)],9,true⟩,⟨some g1,24,[.int .u8 (ta:Nat),.int .u8 (xa:Nat),.int .u8 (ya:Nat),az (some gn) 0 a.length nc],4,true⟩,⟨some gn,86,ah kQ ((a.set k ⟨s.time,(s.x+ch/16)%256,s.y,s.kind⟩).set k (FD ch s)),nN,true⟩]⟩ _;refine A2 ?_;refine Dp [] [0,1,3,2,4,5,6] ?_;refine A1 ?_;refine L4 2 0 ?_;refine L4 3 0 ?_;refine(Sc [0]) (gJ ta xa ya hta hxa hya a ab pa aN ac hac ha6 has) (fun z=>?_);obtain⟨ub,uN,uc,huc⟩:=z;refine iO [_] [4] rfl rfl (by show _=[some _];rw[hAl];rfl) (gJ ta xa ya hta hxa hya ((a.set k ⟨s.time,(s.x+ch/16)%256,s.y,s.kind⟩).set k (FD ch s)) (some gn) [] nN nc (by rw[hAl];omega) (by rw[hAl];exact ha6) hAo) ⟨pS,trivial⟩ rfl (.inr fun x b hb=>by rw[List.mem_singleton.1 hb]) (fun z=>?_);obtain⟨vb,vN,vc,hvc⟩:=z;refine A5 ?_;refine bF rfl (aj rfl) (aj rfl) (fun w hL=>⟨(⟨ub,uN,uc,huc⟩,⟨vb,vN,vc,by rw[hW];exact hvc⟩),?_,hL.picks [some 5,some 6] ⟨pR,⟨_,rfl,aI (by rw[show ah aQ (qJ ta xa ya a tb xb yb b ch)=_ from congrArg _ hW])⟩,trivial⟩ rfl rfl⟩);show Ending.returned (.tuple #[az ub 0 _ uc,az vb 0 _ vc])=Ending.returned (.tuple #[az ub 0 _ uc,az vb 0 (qJ ta xa ya a tb xb yb b ch).length vc]);rw[hW]
   ·have hc1:¬1<ch%4:=by have e:=of_decide_eq_false hb2;omega
    have hW:qJ ta xa ya a tb xb yb b ch=iF ta xa ya a:=(Lt hch).trans (by rw[qcd (fun e=>hc1 e.2)]);refine A3 ?_;refine Dp [] [0,1,3,2,4,5,6] ?_;refine A1 ?_;refine L4 2 0 ?_;refine L4 3 0 ?_;refine(Sc [0]) (gJ ta xa ya hta hxa hya a ab pa aN ac hac ha6 has) (fun z=>?_);obtain⟨ub,uN,uc,huc⟩:=z;refine(Sc [4]) (gJ ta xa ya hta hxa hya a nb [] nN nc (by omega) ha6 has) (fun z=>?_);obtain⟨vb,vN,vc,hvc⟩:=z;refine A5 ?_;refine bF rfl (aj rfl) (aj rfl) (fun w hL=>⟨(⟨ub,uN,uc,huc⟩,⟨vb,vN,vc,by rw[hW];exact hvc⟩),?_,hL.picks [some 5,some 6] ⟨pR,⟨_,rfl,aI (by rw[show ah aQ (qJ ta xa ya a tb xb yb b ch)=_ from congrArg _ hW])⟩,trivial⟩ rfl rfl⟩);show Ending.returned (.tuple #[az ub 0 _ uc,az vb 0 _ vc])=Ending.returned (.tuple #[az ub 0 _ uc,az vb 0 (qJ ta xa ya a tb xb yb b ch).length vc]);rw[hW]
  ·have hl0:¬0<a.length:=by have e:=of_decide_eq_false hb1;omega
   have hW:qJ ta xa ya a tb xb yb b ch=iF ta xa ya a:=(Lt hch).trans (by rw[qcd (fun e=>hl0 e.1)]);refine oO ?_;refine Dp [] [0,1,3,2,4,5,6] ?_;refine A1 ?_;refine L4 2 0 ?_;refine L4 3 0 ?_;refine(Sc [0]) (gJ ta xa ya hta hxa hya a ab pa aN ac hac ha6 has) (fun z=>?_);obtain⟨ub,uN,uc,huc⟩:=z;refine(Sc [4]) (gJ ta xa ya hta hxa hya a nb [] nN nc (by omega) ha6 has) (fun z=>?_);obtain⟨vb,vN,vc,hvc⟩:=z;refine A5 ?_;refine bF rfl (aj rfl) (aj rfl) (fun w hL=>⟨(⟨ub,uN,uc,huc⟩,⟨vb,vN,vc,by rw[hW];exact hvc⟩),?_,hL.picks [some 5,some 6] ⟨pR,⟨_,rfl,aI (by rw[show ah aQ (qJ ta xa ya a tb xb yb b ch)=_ from congrArg _ hW])⟩,trivial⟩ rfl rfl⟩);show Ending.returned (.tuple #[az ub 0 _ uc,az vb 0 _ vc])=Ending.returned (.tuple #[az ub 0 _ uc,az vb 0 (qJ ta xa ya a tb xb yb b ch).length vc]);rw[hW]
 ·have hch:¬0<ch%4:=by have e:=of_decide_eq_false hb0;omega
  have hW:qJ ta xa ya a tb xb yb b ch=iF tb xb yb b:=qfs hch;refine A3 ?_;refine Dp [] [0,1,3,2,4,5,6] ?_;refine A1 ?_;refine L4 2 0 ?_;refine L4 3 0 ?_;refine(Sc [0]) (gJ ta xa ya hta hxa hya a ab pa aN ac hac ha6 has) (fun z=>?_);obtain⟨ub,uN,uc,huc⟩:=z;refine(Sc [1]) (gJ tb xb yb htb hxb hyb b bb pb bN bc hbc hb6 hbs) (fun z=>?_);obtain⟨vb,vN,vc,hvc⟩:=z;refine A5 ?_;refine bF rfl (aj rfl) (aj rfl) (fun w hL=>⟨(⟨ub,uN,uc,huc⟩,⟨vb,vN,vc,by rw[hW];exact hvc⟩),?_,hL.picks [some 4,some 5] ⟨pR,⟨_,rfl,aI (by rw[show ah aQ (qJ ta xa ya a tb xb yb b ch)=_ from congrArg _ hW])⟩,trivial⟩ rfl rfl⟩);show Ending.returned (.tuple #[az ub 0 _ uc,az vb 0 _ vc])=Ending.returned (.tuple #[az ub 0 _ uc,az vb 0 (qJ ta xa ya a tb xb yb b ch).length vc]);rw[hW]
end Go.Proofs.YtaffcpfhedadhaaGreatDoor
namespace Go.Via
open Go
structure qlY(m:Int)(lo hi:Int->Int)(w u:PU):Prop where
 f:iR w.i.f
 t:iR w.i.t
 b:aV jE w.i.b=lo (aV jE u.i.b)
 e:aV jE w.i.e=hi (aV jE u.i.e)
 lt:aV jE w.i.b<aV jE w.i.e
 agr:w.f=u.f∨(2*m<=aV jE w.i.b∧aV jE w.i.e<=2*m+1∧wL (qx w.f) (m:Rat)=wL (qx u.f) (m:Rat)∧wL (qy w.f) (m:Rat)=wL (qy u.f) (m:Rat))
structure qlp(z x:Iv×Qd):Prop where
 f:iR z.1.f
 t:iR z.1.t
 lt:aV jE z.1.b<aV jE z.1.e
 b:aV jE x.1.b<=aV jE z.1.b
 e:aV jE z.1.e<=aV jE x.1.e
 same:aZ (z.1,x.2)=aZ z
end Go.Via
namespace Go.Via
open Go
structure qlZ(l:List oZ)(M:Rat):Prop where
 le:∀p∈l,∀u,p.a=rl u∨p.b=rl u->u<=M
 mem:∃p∈l,p.a=rl M∨p.b=rl M
section
variable{m:Int}{a b:List PU}
theorem qch{a b:List PU}{z:Iv×Qd}:z∈flatK uz a b↔∃x∈a,∃y∈b,uz x y=some z:=by
 unfold flatK;rw[List.mem_flatMap]
 constructor
 ·rintro⟨x,hx,h⟩;obtain⟨y,hy,e⟩:=List.mem_filterMap.1 h;exact⟨x,hx,y,hy,e⟩
 ·rintro⟨x,hx,y,hy,e⟩;exact⟨x,hx,List.mem_filterMap.2 ⟨y,hy,e⟩⟩
end
end Go.Via
namespace Go.Via
open Go
def TK{f:Ln}{t:Rl}(hf:jo f<=15)(ht:gY t<=2):jo (jg f t)<=38:=by
 have h3:=sO t;have a0:=rQ f;have a1:=rU f;have a2:=rV f;have a3:=rW f;have z:=wP;have h1:dw (wL (qx f) t.p)<=38:=by
  have h:=xB (qx f) t.p;have e:dw (qx f).c2<=2:=z;have e0:dw (qx f).c0=dw f.x0:=rfl;have e1:dw (qx f).c1=dw f.x1:=rfl;omega
 have h2:dw (wL (qy f) t.p)<=38:=by
  have h:=xB (qy f) t.p;have e:dw (qy f).c2<=2:=z;have e0:dw (qy f).c0=dw f.y0:=rfl;have e1:dw (qy f).c1=dw f.y1:=rfl;omega
 unfold jg
 split
 ·show max (max (dw (wL (qx f) t.p)) (dw 0)) (max (dw (wL (qy f) t.p)) (dw 0))<=38;omega
 ·omega
def qh1(l:List PU):Prop:=∀u∈l,jV u.i<=2∧jo u.f<=38
section
variable{t x y:Nat}{l:List sV}
def Qp(h6:l.length<=6):qh1 (iF t x y l):=fun u hu=>by
 have he:=OA h6 u hu;refine⟨xC he.1.2 he.2.2,?_⟩;rw[yz h6] at hu;refine NZ (P:=fun f=>jo f<=38) (fun v hv=>?_) u hu;have h:=DY (l:=l) (KX h6) (o:=[]) (by simp) v hv;exact⟨Nat.le_trans h.2.2 (by omega),TK h.2.2 h.1.2,TK h.2.2 h.2.1.2⟩
end
structure Fl(A B:List PU):Prop where
 sa:Hw A
 sb:Hw B
 H:FB A B
 la:A.length<=21
 lb:B.length<=21
 za:qh1 A
 zb:qh1 B
def FB.swap{A B:List PU}(H:FB A B):FB B A:=⟨H.sb,H.sa,H.eb,H.ea⟩
def Fl.swap{A B:List PU}(F:Fl A B):Fl B A:=⟨F.sb,F.sa,F.H.swap,F.lb,F.la,F.zb,F.za⟩
section
variable{ta xa ya tb xb yb ch:Nat}{a b:List sV}
def qh2(ha:a.length<=6)(hb:b.length<=6):Fl (iF ta xa ya a) (qJ ta xa ya a tb xb yb b ch):=
 ⟨La ha,qcf ha hb,qcg,Lc ha,qce ha hb,Qp ha,by
 unfold qJ;split
 ·exact Qp (by rw[Qn];exact ha)
 ·exact Qp hb⟩
end
abbrev uD(A B:List PU):List oZ:=(ay A B).map aZ
section
variable{A B:List PU}
theorem Fl.flat(F:Fl A B):ay A B=flatK uz A B:=lJ qj F.H.sa F.H.sb F.H.ea F.H.eb
def Fl.PS(F:Fl A B):∀x∈ay A B,(iR x.1.f∧iR x.1.t)∧aV jE x.1.b<aV jE x.1.e:=fun x hx=>by
 rw[F.flat] at hx;exact IZ qj F.H.ea F.H.eb x hx
def Fl.cS(F:Fl A B):∀p∈uD A B,iR p.i.f∧iR p.i.t:=fun p hp=>by
 obtain⟨x,hx,rfl⟩:=List.mem_map.1 hp;exact(F.PS x hx).1
theorem Fl.ps(F:Fl A B):∀z∈ay A B,jV z.1<=2∧uB z.2<=324:=fun z hz=>by
 rw[F.flat,qch] at hz;obtain⟨x,hx,y,hy,e⟩:=hz;unfold uz jf at e
 split at e
 ·simp at e;subst e;exact⟨Tc (F.za x hx).1 (F.zb y hy).1,Nat.le_trans (qbv (F.za x hx).2 (F.zb y hy).2) (by omega)⟩
 ·simp at e
def qf4{f:Qd}{t:Rl}(ht:iR t)(hf:uB f<=324)(hz:gY t<=2):gY (NW f t)<=1000:=by
 obtain⟨z,rfl⟩:=ht;rw[Gq];have h:=xB f (z:Rat);have h0:=qo f;have h1:=qp f;have h2:=qM f;have h3:dw (z:Rat)<=2:=Nat.le_trans (sO (rl (z:Rat))) hz;exact yV (by omega) (by omega)
def Fl.sz(F:Fl A B):∀p∈uD A B,jV p.i<=1000∧gY p.a<=1000∧gY p.b<=1000:=fun p hp=>by
 obtain⟨x,hx,rfl⟩:=List.mem_map.1 hp;obtain⟨h1,h2⟩:=F.ps x hx;obtain⟨h3,h4⟩:=(F.PS x hx).1;exact⟨Nat.le_trans h1 (by omega),qf4 h3 h2 (Nat.le_trans (kw _) h1),qf4 h4 h2 (Nat.le_trans (kz _) h1)⟩
theorem Fl.n(F:Fl A B):(uD A B).length<=42:=by
 have h:=uC A B;have h1:=F.la;have h2:=F.lb;rw[List.length_map];omega
def Fl.ne(h:(uD A B).length≠0):ay A B≠[]:=fun e=>h (by rw[uD,e];rfl)
def Fl.mostz(F:Fl A B):gY (CO (uD A B))<=1000:=by
 by_cases h:ay A B=[]
 ·rw[uD,h];exact yV (Nat.le_trans wP (by omega)) (by omega)
 ·rw[KI F.H.sa F.H.sb F.H.ea F.H.eb h];obtain⟨p,hp,e⟩:=YE (l:=uD A B) (by intro e;exact h (List.map_eq_nil_iff.1 e));have:=F.sz p hp;rcases e with e|e<;>rw[e]
  ·exact this.2.1
  ·exact this.2.2
theorem Fl.most(F:Fl A B)(h:(uD A B).length≠0):fO (uD A B)=CO (uD A B):=(KI F.H.sa F.H.sb F.H.ea F.H.eb (Fl.ne h)).symm
def Fl.greatz(F:Fl A B)(h:(uD A B).length≠0):gY (fO (uD A B))<=1000:=by rw[F.most h];exact F.mostz
def Fl.ok(F:Fl A B)(h:(uD A B).length≠0):vW A B (uD A B) (fO (uD A B))=0:=qbi F.H.sa F.H.sb F.H.ea F.H.eb (Fl.ne h)
theorem Fl.comm(F:Fl A B):uD B A=uD A B:=by rw[uD,uD,SS F.H.sa F.H.sb F.H.ea F.H.eb]
def Fl.okC(F:Fl A B)(h:(uD A B).length≠0):vW B A (uD A B) (fO (uD A B))=0:=by
 have h2:(uD B A).length≠0:=(by rw[F.comm];exact h);have h3:=F.swap.ok h2;rw[F.comm] at h3;exact h3
def Fl.nil(F:Fl A B)(h:(uD A B).length=0)(c:List oZ)(m:Rl):vW A B c m=36:=by
 unfold vW;rw[if_pos (by rw[List.map_eq_nil_iff.1 (List.length_eq_zero_iff.1 h)];rfl)]
theorem Fl.with(F:Fl A B){x:Rl}(h:decide (bW (CO (uD A B)) x<=0)=true):((if(uD A B).length=0 then(36:Int) else 0) !=0||decide (bW (fO (uD A B)) x<=0))=true:=by
 by_cases h0:(uD A B).length=0
 ·rw[if_pos h0];rfl
 ·rw[F.most h0,h,Bool.or_true]
def Fl.sz5(F:Fl A B):∀p∈uD A B,jV p.i<=5000∧gY p.a<=5000∧gY p.b<=5000:=fun p hp=>by
 have h:=F.sz p hp;omega
end
end Go.Via
namespace Go.Proofs.YtaffcpfhedadhaaGreatDoor
open Go Go.RowKit Go.Via
def qci{ta xa ya tb xb yb ch:Nat}{a b:List sV}{A B:List PU}(hA:iF ta xa ya a=A)(hB:qJ ta xa ya a tb xb yb b ch=B)(hta:ta<256)(hxa:xa<256)(hya:ya<256)(htb:tb<256)(hxb:xb<256)(hyb:yb<256)(hch:ch<256)
 {ab:Option Nat}{pa:List Value}(aN ac:Nat)(hac:a.length<=ac)(ha6:a.length<=6)(has:∀s∈a,YT s){bb:Option Nat}{pb:List Value}(bN bc:Nat)(hbc:b.length<=bc)(hb6:b.length<=6)(hbs:∀s∈b,YT s):
 dh Tryz.prog 13 [⟨ab,86,pa++ah kQ a,aN,false⟩,⟨bb,86,pb++ah kQ b,bN,false⟩] [.agg #[.int .u8 (ta:Nat),.int .u8 (xa:Nat),.int .u8 (ya:Nat),az ab pa.length a.length ac,.int .u8 (tb:Nat),.int .u8 (xb:Nat),.int .u8 (yb:Nat),az bb pb.length b.length bc,.int .u8 (ch:Nat)]] (SR A.length×SR B.length) (fun z=> .tuple #[z.1.v,z.2.v]) (fun z=>[⟨z.1.b,100,ah aQ A,z.1.n,true⟩,⟨z.2.b,100,ah aQ B,z.2.n,true⟩]):=by
 subst hA;subst hB;exact Lu ta xa ya tb xb yb ch hta hxa hya htb hxb hyb hch a ab pa aN ac hac ha6 has b bb pb bN bc hbc hb6 hbs
section
variable{A B:List PU}
def qh3(F:Fl A B)(ub:Option Nat)(uN uc:Nat)(huc:A.length<=uc)(vb:Option Nat)(vN vc:Nat)(hvc:B.length<=vc)(c:List oZ)(cb:Option Nat)(cN cc:Nat)(hcc:c.length<=cc)(hn:c.length<=42)(m:Rl)(hsz:∀p∈c,jV p.i<=5000∧gY p.a<=5000∧gY p.b<=5000)(hm:gY m<=5000)(hS:∀p∈c,iR p.i.f∧iR p.i.t){e:Int}(he:vW A B c m=e):
 dh Tryz.prog 16 [⟨ub,100,ah aQ A,uN,false⟩,⟨vb,100,ah aQ B,vN,false⟩,⟨cb,63,ah bg c,cN,false⟩] [az ub 0 A.length uc,az vb 0 B.length vc,CfV (az cb 0 c.length cc) m] Unit (fun _=> .int .i64 e) (fun _=>[]):=by
 subst he;exact vO qj A ub uN uc huc (Nat.le_trans F.la (by omega)) B vb vN vc hvc (Nat.le_trans F.lb (by omega)) F.sa F.sb F.H c cb cN cc hcc (by omega) m hsz hm F.PS hS
def qcj(F:Fl A B)(ub:Option Nat)(uN uc:Nat)(huc:A.length<=uc)(vb:Option Nat)(vN vc:Nat)(hvc:B.length<=vc)(cb:Option Nat)(cN cc:Nat)(hcc:(uD A B).length<=cc:=by omega)(h:(uD A B).length≠0:=by omega):
 dh Tryz.prog 16 [⟨ub,100,ah aQ A,uN,false⟩,⟨vb,100,ah aQ B,vN,false⟩,⟨cb,63,ah bg (uD A B),cN,false⟩] [az ub 0 A.length uc,az vb 0 B.length vc,CfV (az cb 0 (uD A B).length cc) (fO (uD A B))] Unit (fun _=> .int .i64 0) (fun _=>[]):=
 qh3 F ub uN uc huc vb vN vc hvc (uD A B) cb cN cc hcc F.n _ F.sz5 (Nat.le_trans (F.greatz h) (by omega)) F.cS (F.ok h)
def qck(F:Fl A B)(vb:Option Nat)(vN vc:Nat)(hvc:B.length<=vc)(ub:Option Nat)(uN uc:Nat)(huc:A.length<=uc)(cb:Option Nat)(cN cc:Nat)(hcc:(uD A B).length<=cc:=by omega)(h:(uD A B).length≠0:=by omega):
 dh Tryz.prog 16 [⟨vb,100,ah aQ B,vN,false⟩,⟨ub,100,ah aQ A,uN,false⟩,⟨cb,63,ah bg (uD A B),cN,false⟩] [az vb 0 B.length vc,az ub 0 A.length uc,CfV (az cb 0 (uD A B).length cc) (fO (uD A B))] Unit (fun _=> .int .i64 0) (fun _=>[]):=
 qh3 F.swap vb vN vc hvc ub uN uc huc (uD A B) cb cN cc hcc F.n _ F.sz5 (Nat.le_trans (F.greatz h) (by omega)) F.cS (F.okC h)
def qcl(F:Fl A B)(ub:Option Nat)(uN uc:Nat)(huc:A.length<=uc)(vb:Option Nat)(vN vc:Nat)(hvc:B.length<=vc)(cb:Option Nat)(cN cc:Nat)(hcc:(uD A B).length<=cc)(h:(uD A B).length=0):
 dh Tryz.prog 16 [⟨ub,100,ah aQ A,uN,false⟩,⟨vb,100,ah aQ B,vN,false⟩,⟨cb,63,ah bg (uD A B),cN,false⟩] [az ub 0 A.length uc,az vb 0 B.length vc,CfV (az cb 0 (uD A B).length cc) (fO (uD A B))] Unit (fun _=> .int .i64 36) (fun _=>[]):=
 qh3 F ub uN uc huc vb vN vc hvc (uD A B) cb cN cc hcc F.n _ F.sz5 (by rw[List.length_eq_zero_iff.1 h];exact yV (Nat.le_trans wP (by omega)) (by omega)) F.cS (F.nil h _ _)
end
end Go.Proofs.YtaffcpfhedadhaaGreatDoor
namespace Go.Proofs.YtaffcpfhedadhaaGreatDoor
open Go Go.RowKit Go.Via
def ML(ta xa ya tb xb yb ch:Nat)(a b:List sV)(ab bb:Option Nat)(pa pb:List Value)(ac bc:Nat):aP Tryz.prog 12 #[.agg #[.int .u8 (ta:Nat),.int .u8 (xa:Nat),.int .u8 (ya:Nat),az ab pa.length a.length ac,.int .u8 (tb:Nat),.int .u8 (xb:Nat),.int .u8 (yb:Nat),az bb pb.length b.length bc,.int .u8 (ch:Nat)]] (.bool (decide (a.length<=6)&&decide (b.length<=6))):=by
 refine xJ 15 Tryz.func12 fun w=>?_;refine A2 ?_;refine Bp 9 (fun g0=>?_);refine oO ?_;refine Rs 8 ?_ ?_<;>intro hb0
 ·have hs1:a.length<=6:=by have e:=of_decide_eq_true hb0;omega
  refine lm ?_;refine E0 ?_;exact congrArg (fun z=>Ending.returned (.bool z)) (by rw[decide_eq_true hs1,Bool.true_and];exact decide_eq_decide.2 (by omega))
 ·have hs1:¬a.length<=6:=by have e:=of_decide_eq_false hb0;omega
  refine lm ?_;refine E0 ?_;exact congrArg (fun z=>Ending.returned (.bool z)) (by rw[decide_eq_false hs1];rfl)
end Go.Proofs.YtaffcpfhedadhaaGreatDoor
namespace Go.Via
open Go
def Vo(x:Rl):Int:=uw x.p (oV x) x.r
def mr(x:Rl):Int:=
 (if x.n=true then x.p.num*x.r.den-((cO ((x.p.den*x.p.den)*(x.r.num.natAbs*x.r.den)):Nat)+1) else x.p.num*x.r.den+(cO ((x.p.den*x.p.den)*(x.r.num.natAbs*x.r.den)):Nat))/((x.p.den*x.r.den:Nat):Int)
def dM(q:Qd):List Rl:=
 if q.c2=0 then(if q.c1=0 then[] else[rl (-(q.c0/q.c1))]) else
 let h:=q.c1/(-2*q.c2)
 let r:=h*h-q.c0/q.c2
 if r<0 then[] else if r=0 then[rl h] else[mkR h (-1) r,mkR h 1 r]
def tK(x y:Rl):Option Rat:=
 if eH x=true∧eH y=true∧gY x<=1000∧gY y<=1000∧¬Vo x<0∧0<Vo y∧0<bW y (rl ((mr x+1:Int):Rat))∧x.n=false∧jH (mr x)<=4000 then some ((mr x+1:Int):Rat) else none
def FH(sm:Rl->Rl->Option Rat)(q:Qd)(i:Iv):Option Int:=
 if bW i.f i.t<0 then(sm i.f i.t).bind fun r=>if dw r<=5000 then some (Vo (NW q (rl r))) else none else none
def iw(sm:Rl->Rl->Option Rat)(q:Qd)(i:Iv):List Rl->Iv->List (Iv×Int)->Option (List (Iv×Int))
 |[],rest,out=>if jQ rest=true then(FH sm q rest).map fun s=>out++[(rest,s)] else some out
 |r::rs,rest,out=>
  if D9 i r=false then iw sm q i rs rest out else
  if bW rest.f r<0 then(FH sm q ⟨rest.f,r,rest.fo,true⟩).bind fun s=>iw sm q i rs ⟨r,rest.t,true,rest.tp⟩ (out++[(⟨rest.f,r,rest.fo,true⟩,s),(⟨r,r,false,false⟩,0)])
  else iw sm q i rs ⟨r,rest.t,true,rest.tp⟩ (out++[(⟨r,r,false,false⟩,0)])
def qlq(l:List Iv)(i:Iv):List Iv:=match l.getLast? with
 |some u=>l.dropLast++[⟨u.f,i.t,u.fo,i.tp⟩]
 |none=>l
def nR(a b c:Bool)(s:Int):Bool:=if s<0 then a else if s=0 then b else c
def oI(w:Int->Bool):List (Iv×Int)->List Iv->Bool->List Iv
 |[],out,_=>out
 |p::ps,out,before=>if w p.2=true then oI w ps (if before=true then qlq out p.1 else out++[p.1]) true else oI w ps out false
def tu(sm:Rl->Rl->Option Rat)(w:Int->Bool)(q:Qd)(i:Iv):Option (List Iv):=(iw sm q i (dM q) i []).map fun l=>oI w l [] false
def LC(sm:Rl->Rl->Option Rat)(r:Rat):List (Iv×Qd)->Option (List Iv)
 |[]=>some []
 |x::l=>(tu sm (nR false false true) (qw x.2 ⟨r*r,0,0⟩) x.1).bind fun a=>(LC sm r l).map fun b=>a++b
end Go.Via
namespace Go.Via
open Go
def rX(n:Int):Rat.divInt n 1=(n:Rat):=by have h:=Rat.num_divInt_den (n:Rat);rw[Rat.num_intCast,Rat.den_intCast] at h;exact h
def Xl(t:Rl)(a b:Bool):kF ⟨rl 0,t,a,b⟩= .agg #[aX,aY,aX,aY,aX,aY,aX,aY,.bool false,.bool (decide (t.p.num<0)),.string (bQ t.p.num.natAbs),.bool false,.string (dm t.p),.bool (decide (t.r.num<0)),.string (bQ t.r.num.natAbs),.bool false,.string (dm t.r),.bool t.n,.bool a,.bool b]:=by
 unfold kF rl;simp only[SV,dm0,SX]
def qh4(q:Rat):xK ⟨0,q,0,0⟩= .agg #[aX,aY,aX,aY,.bool (decide (q.num<0)),.string (bQ q.num.natAbs),.bool false,.string (dm q),aX,aY,aX,aY,aX,aY,aX,aY]:=by
 unfold xK;simp only[SV,dm0,SX]
def qh5(q:Rat):xK ⟨0,0,q,0⟩= .agg #[aX,aY,aX,aY,aX,aY,aX,aY,.bool (decide (q.num<0)),.string (bQ q.num.natAbs),.bool false,.string (dm q),aX,aY,aX,aY]:=by
 unfold xK;simp only[SV,dm0,SX]
def qjK(p q r:Rat):xK ⟨p,q,r,0⟩= .agg #[.bool (decide (p.num<0)),.string (bQ p.num.natAbs),.bool false,.string (dm p),.bool (decide (q.num<0)),.string (bQ q.num.natAbs),.bool false,.string (dm q),.bool (decide (r.num<0)),.string (bQ r.num.natAbs),.bool false,.string (dm r),aX,aY,aX,aY]:=by
 unfold xK;simp only[SV,dm0,SX]
def rz(n:Int):Rl:=rl (n:Rat)
def qjL{n:Int}(h1: -255<=n)(h2:n<=255):gY (rz n)<=2:=yV (nV h1 h2) (Nat.le_refl _)
def eA1:PU:=⟨⟨rl 0,rz 4,false,false⟩,⟨0,((1:Int):Rat),0,0⟩⟩
def eB1:PU:=⟨⟨rl 0,rz 2,false,false⟩,⟨0,0,((3:Int):Rat),0⟩⟩
def eB2:PU:=⟨⟨rz 2,rz 4,true,false⟩,⟨((-4:Int):Rat),((2:Int):Rat),((3:Int):Rat),0⟩⟩
end Go.Via
namespace Go.Proofs.YtaffcpfhedadhaaGreatDoor
open Go Go.RowKit Go.Via
def iQ(n:Int)(h1: -255<=n:=by omega)(h2:n<=255:=by omega):aP Tryz.prog 36 #[.int .i64 n] (RV (rz n)):=by
 refine xJ 6 Tryz.func36 fun w=>?_;refine A2 ?_;refine Al 9 O5 (fun g0=>?_);refine A5 ?_;refine Pc (jd n 1) ?_;refine aT 4 (Q (n:Rat)) rfl (congrArg Q (rX n)) ?_;refine(Bu [(0,_)]) (JL) ?_;refine Ss 0 ?_;refine A3 ?_;refine Ed9 0 ?_;exact congrArg Ending.returned (Ob (n:Rat)).symm
def IB:dh Tryz.prog 39 [] [] (SR [eA1].length×SR [eB1,eB2].length) (fun z=> .tuple #[z.1.v,z.2.v]) (fun z=>[⟨z.1.b,100,ah aQ [eA1],z.1.n,true⟩,⟨z.2.b,100,ah aQ [eB1,eB2],z.2.n,true⟩]):=by
 refine sB0 24 Tryz.func39 fun w hL0=>?_;refine A8 ?_;refine Pc (iQ 4) ?_;refine(Bu [(1,_)]) (O7) ?_;refine aT 3 (kF eA1.i) rfl (Xl _ _ _).symm ?_;refine Pc (jd 1 1) ?_;refine aT 4 (Q ((1:Int):Rat)) rfl (congrArg Q (rX 1)) ?_;refine(Bu [(1,_)]) (qdm) ?_;refine aT 5 (xK eA1.f) rfl (qh4 _).symm ?_;refine(Bu [(0,_),(1,_)]) (rE) ?_;refine Kr 6 (U2 eA1) ?_;refine(Bl 36 [(0,_)]) (uI) (fun g0=>?_);refine A5 ?_;refine Pc (iQ 2) ?_;refine(Bu [(1,_)]) (O7) ?_;refine aT 9 (kF eB1.i) rfl (Xl _ _ _).symm ?_;refine Pc (jd 3 1) ?_;refine aT 10 (Q ((3:Int):Rat)) rfl (congrArg Q (rX 3)) ?_;refine(Bu [(2,_)]) (qdn) ?_;refine aT 11 (xK eB1.f) rfl (qh5 _).symm ?_;refine(Bu [(0,_),(1,_)]) (rE) ?_;refine Kr 12 (U2 eB1) ?_;refine Pc (iQ 2) ?_;refine Pc (iQ 4) ?_;refine(Bu [(0,_),(1,_),(2,_)]) (Ur) ?_;refine Kr 15 (kF eB2.i) ?_;refine Pc (jd (-4) 1) ?_;refine aT 16 (Q (((-4):Int):Rat)) rfl (congrArg Q (rX (-4))) ?_;refine Pc (jd 2 1) ?_;refine aT 17 (Q ((2:Int):Rat)) rfl (congrArg Q (rX 2)) ?_;refine Pc (jd 3 1) ?_;refine aT 18 (Q ((3:Int):Rat)) rfl (congrArg Q (rX 3)) ?_;refine(Bu [(0,_),(1,_),(2,_)]) (qgI) ?_;refine aT 19 (xK eB2.f) rfl (qjK _ _ _).symm ?_;refine(Bu [(0,_),(1,_)]) (rE) ?_;refine Kr 20 (U2 eB2) ?_;refine(Bl 72 [(0,_),(1,_)]) (qgK) (fun g1=>?_);refine lX ?_;refine bF rfl (aj rfl) (aj rfl) (fun w hL=>⟨(⟨some g0,36,1,Nat.le_refl _⟩,⟨some g1,72,2,Nat.le_refl _⟩),?_,hL.pk [some 0,some 1]⟩);exact rfl
def AY(x:Rl)(r:Rat)(hx:gY x<=50000:=by omega)(hr:dw r<=20000:=by omega):aP Tryz.prog 68 #[RV x,Q r] (.bool (decide (bW x (rl (r*r))<=0))):=by
 have h2:=wB hr hr;refine oG 11 Tryz.func68 fun w=>?_;refine A2 ?_;refine Bp 9 (fun g0=>?_);refine Bp 4 (fun g1=>?_);refine A4 ?_;refine Di [] ?_;refine L9 0 0 ?_;refine L4 1 0 ?_;refine L4 1 0 ?_;refine Pc (aK r r) ?_;refine Pc (wQ x (r*r) hx) ?_;refine A5 ?_;refine E0 ?_;exact rfl
def vS(cb:Option Nat)(cn cc:Nat)(x:Rl)(r:Rat)(hx:gY x<=50000:=by omega)(hr:dw r<=20000:=by omega):aP Tryz.prog 26 #[CfV (az cb 0 cn cc) x,Q r] (.bool (decide (bW x (rl (r*r))<=0))):=by
 refine oG 9 Tryz.func26 fun w=>?_;refine A2 ?_;refine Bp 10 (fun g0=>?_);refine Bp 4 (fun g1=>?_);refine A6 ?_;refine L9 0 1 ?_;refine L4 1 0 ?_;refine Pc (AY x r hx hr) ?_;refine A4 ?_;refine E0 ?_;exact rfl
end Go.Proofs.YtaffcpfhedadhaaGreatDoor
namespace Go.Via
open Go
theorem qh6(x:Rl):(((x.p.den:Int)*(x.p.den:Int))*(x.r.num*(x.r.den:Int))).natAbs=(x.p.den*x.p.den)*(x.r.num.natAbs*x.r.den):=by
 rw[Int.natAbs_mul,Int.natAbs_mul,Int.natAbs_mul];rfl
def qh7{x:Rl}(h:0<=x.r):¬((x.p.den:Int)*(x.p.den:Int))*(x.r.num*(x.r.den:Int))<0:=by
 have h1:0<=x.r.num:=Rat.num_nonneg.2 h;have h2:0<=((x.p.den:Int)*(x.p.den:Int))*(x.r.num*(x.r.den:Int)):=Int.mul_nonneg (Int.mul_nonneg (Int.natCast_nonneg _) (Int.natCast_nonneg _)) (Int.mul_nonneg h1 (Int.natCast_nonneg _));omega
def qcm{x:Rl}(hn:x.n=false):(x.p.num*(x.r.den:Int)+((cO (((x.p.den:Int)*(x.p.den:Int))*(x.r.num*(x.r.den:Int))).natAbs:Nat):Int))/((x.p.den:Int)*(x.r.den:Int))=mr x:=by
 unfold mr;rw[if_neg (by rw[hn];decide),qh6];simp only[Int.natCast_mul]
def qcn(x:Rl):(x.p.den:Int)*(x.r.den:Int)≠0:=Int.mul_ne_zero (by have:=x.p.den_pos;omega) (by have:=x.r.den_pos;omega)
def Vp{x y:Rl}{r:Rat}(h:tK x y=some r):(eH x=true∧eH y=true∧gY x<=1000∧gY y<=1000∧¬Vo x<0∧0<Vo y∧0<bW y (rl ((mr x+1:Int):Rat))∧x.n=false∧jH (mr x)<=4000)∧r=((mr x+1:Int):Rat):=by
 unfold tK at h
 split at h
 ·rename_i hc;exact⟨hc,by injection h with e;exact e.symm⟩
 ·cases h
section
variable{sm:Rl->Rl->Option Rat}{q:Qd}{i:Iv}
def DZ{s:Int}(h:FH sm q i=some s):bW i.f i.t<0∧∃r,sm i.f i.t=some r∧dw r<=5000∧s=Vo (NW q (rl r)):=by
 unfold FH at h
 split at h
 ·rename_i hc
  refine⟨hc,?_⟩;rcases hs:sm i.f i.t with _|r
  ·rw[hs] at h;cases h
  ·rw[hs] at h;simp only[Option.bind_some] at h
   split at h
   ·rename_i h5;injection h with e;exact⟨r,rfl,h5,e.symm⟩
   ·cases h
 ·cases h
variable{x:Rl}{k:Nat}{rs:List Rl}{rest:Iv}{o l:List (Iv×Int)}
def qf5(hx:rs[k]? =some x)(hin:D9 i x=false)(h:iw sm q i (rs.drop k) rest o=some l):iw sm q i (rs.drop (k+1)) rest o=some l:=by
 rw[xH hx,iw,if_pos hin] at h;exact h
def qf6(hx:rs[k]? =some x)(hin:D9 i x=true)(hlt:bW rest.f x<0)(h:iw sm q i (rs.drop k) rest o=some l):∃s,FH sm q ⟨rest.f,x,rest.fo,true⟩=some s∧iw sm q i (rs.drop (k+1)) ⟨x,rest.t,true,rest.tp⟩ (o++[(⟨rest.f,x,rest.fo,true⟩,s)]++[(⟨x,x,false,false⟩,0)])=some l:=by
 rw[xH hx,iw,if_neg (by rw[hin];decide),if_pos hlt] at h;rcases hp:FH sm q ⟨rest.f,x,rest.fo,true⟩ with _|s
 ·rw[hp] at h;cases h
 ·rw[hp] at h;exact⟨s,rfl,by rw[List.append_assoc];exact h⟩
def qf7(hx:rs[k]? =some x)(hin:D9 i x=true)(hge:¬bW rest.f x<0)(h:iw sm q i (rs.drop k) rest o=some l):iw sm q i (rs.drop (k+1)) ⟨x,rest.t,true,rest.tp⟩ (o++[(⟨x,x,false,false⟩,0)])=some l:=by
 rw[xH hx,iw,if_neg (by rw[hin];decide),if_neg hge] at h;exact h
def Xm(ho:jQ rest=true)(h:iw sm q i (rs.drop rs.length) rest o=some l):∃s,FH sm q rest=some s∧l=o++[(rest,s)]:=by
 rw[List.drop_length,iw,if_pos ho] at h;rcases hp:FH sm q rest with _|s
 ·rw[hp] at h;cases h
 ·rw[hp] at h;injection h with e;exact⟨s,rfl,e.symm⟩
def Xn(ho:jQ rest=false)(h:iw sm q i (rs.drop rs.length) rest o=some l):l=o:=by
 rw[List.drop_length,iw,if_neg (by rw[ho];decide)] at h
 injection h with e;exact e.symm
end
def qco{q:Qd}(h2:q.c2≠0)(hr:q.c1/(-2*q.c2)*(q.c1/(-2*q.c2))-q.c0/q.c2=0):dM q=[rl (q.c1/(-2*q.c2))]:=by
 unfold dM;rw[if_neg h2];dsimp only;rw[hr,if_neg (by decide),if_pos rfl]
end Go.Via
