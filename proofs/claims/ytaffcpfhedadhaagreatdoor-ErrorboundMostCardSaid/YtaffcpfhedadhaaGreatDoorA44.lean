/-
  Part 44 (chapter 32): lemmas, walks. Each theorem states its own conditions.
-/
import Derived.Shelf.SlSortCmp.WholeK
import Derived.Shelf.SlSortCmp.NoneTotal
import Derived.Lib.Repeat
import Derived.Sort.Grow
import Derived.Sort.EncStr
import Derived.ChangeSame
import Derived.OpenShut
import Derived.RowKit3
import Derived.ProofKit
import Derived.Deep.Slices
import Derived.Carry
import Derived.ChangeMaps5
import Derived.Test.YtaffcpfhedadhaaGreatDoorA35
set_option linter.all false
set_option maxRecDepth 20000
set_option maxHeartbeats 20000000
namespace Go.Proofs.YtaffcpfhedadhaaGreatDoor
open Go Go.RowKit Go.Via Go.ChangeShapes Go.WideShapes
def Yc{w w':World}(h:Below w.heap.size w w')(may:MemPlace->Prop):w.keptBut w' may:=by
 have hb:∀b,b<w.heap.size->w'.heap[b]? =w.heap[b]? :=h.block;refine⟨h.os,h.output,fun i hi=>?_⟩
 rw[hb i hi]
 split
 ·rename_i e1 e2
  rw[e1] at e2;cases e2;exact⟨rfl,rfl,rfl,fun _ _=>rfl⟩
 ·rename_i e1 e2
  rw[e1] at e2;cases e2;exact Or.inr ⟨rfl,rfl⟩
 ·rfl
def qg1{α:Type}(a0:α){n:Nat}{p:Nat->α->Prop}(h:∀i,i<n->∃x,p i x):∃f:Nat->α,∀i,i<n->p i (f i):=by
 classical
 refine⟨fun i=>if h':i<n then Classical.choose (h i h') else a0,fun i hi=>?_⟩
 show p i (if h':i<n then Classical.choose (h i h') else a0)
 rw[dif_pos hi];exact Classical.choose_spec (h i hi)
def qg2{w:World}{a:Addr}{cs:List Value}(e:TypeId)(he:e<dn)(hne:cs≠[])(h:∀(j:Nat) (v:Value),cs[j]? =some v->w.cell? (a.add j)=some v):
 ∃(g:Nat) (pre:List Value) (N:Nat),a=⟨g,pre.length,none⟩∧rP (Bs.of w) w ⟨some g,e,pre++cs,N,false⟩ g:=by
 obtain⟨c0,l,rfl⟩:=List.exists_cons_of_ne_nil hne;have h0:=h 0 c0 rfl;rw[show a.add 0=a by simp[Addr.add]] at h0;obtain⟨g,off,spot⟩:=a;have h0':=h0;unfold World.cell? at h0'
 split at h0'
 ·rename_i cur e0 fr heq
  split at h0'
  ·cases h0'
  ·rename_i hsp
   have hsn:spot=none:=by cases spot with|none=>rfl|some z=>simp at hsp
   subst hsn;have hoff:off<cur.size:=(Array.getElem?_eq_some_iff.1 h0').1;have hpl:(cur.toList.take off).length=off:=CX
   refine⟨g,cur.toList.take off,cur.size,by rw[hpl],?_⟩;refine⟨.inl ⟨cur,⟨e0,fr,heq,(fun h=>zf),he⟩,rfl,?_⟩,fun h=>zf⟩
   refine List.ext_getElem? fun j=>?_
   show(cur.toList.take (cur.toList.take off++c0::l).length)[j]? =_;rw[List.length_append,hpl]
   by_cases hj:j<off
   ·rw[List.getElem?_append_left (by rw[hpl];exact hj),List.getElem?_take,List.getElem?_take,if_pos ae,if_pos hj]
   ·rw[List.getElem?_append_right (by rw[hpl];omega),hpl,List.getElem?_take]
    split
    ·rename_i hj2
     obtain⟨v,hv⟩:∃v,(c0::l)[j-off]? =some v:=⟨_,List.getElem?_eq_getElem ae⟩;have k2:=h _ _ hv;rw[jR] at k2;unfold World.cell? at k2;simp only[heq] at k2;rw[show off+(j-off)=j by omega] at k2;rw[hv,<-k2];simp
    ·rename_i hj2
     rw[List.getElem?_eq_none ae]
 ·cases h0'
theorem VG{f:Nat->List Value}{k:Nat}:∀{n:Nat},(∀i,i<n->(f i).length=k)->((List.range n).flatMap f).length=n*k
 |0,_=>by simp
 |n+1,h=>by rw[List.range_succ,List.flatMap_append,List.length_append,VG (n:=n) (fun i hi=>h i ae)];simp[h n ae];rw[Nat.succ_mul]
def Yd{w:World}{a:Addr}{k n:Nat}{f:Nat->List Value}(hf:∀i,i<n->w.cells? 0 (a.add (i*k)) k=some (f i))(hk:∀i,i<n->(f i).length=k)(h0:0<k):
 ∀(j:Nat) (v:Value),((List.range n).flatMap f)[j]? =some v->w.cell? (a.add j)=some v:=by
 induction n with
 |zero=>intro j v h;simp at h
 |succ n ih=>
  intro j v h;rw[List.range_succ,List.flatMap_append] at h;have hl:=VG (f:=f) (k:=k) (n:=n) (fun i hi=>hk i ae)
  by_cases hj:j<n*k
  ·rw[List.getElem?_append_left (by rw[hl];exact hj)] at h;exact ih (fun i hi=>hf i ae) (fun i hi=>hk i ae) j v h
  ·rw[List.getElem?_append_right (by rw[hl];omega),hl] at h;simp only[List.flatMap_cons,List.flatMap_nil,List.append_nil] at h;have hjl:j-n*k<k:=by
    have:=(List.getElem?_eq_some_iff.1 h).1
    rwa [hk n ae] at this
   obtain⟨_,_,hc⟩:=World.cells?_some (hf n ae);have:=hc (j-n*k) hjl;rw[h,Addr.add_add] at this;rw[<-this]
   congr 2
   omega
def qn7{W:World}{L:List aJ}(ho:∀b∈L,b.own=false)(h:∀b∈L,(∀g,b.base=some g->rP (Bs.of W) W b g)∧(b.base=none->b.cs=[]∧b.n=0∧∀T:NP,IK T=true->b.e=gE T->∀p∈T,tK W p)):bg (Bs.of W) L W:=by
 refine⟨mM.of (eH.refl _ _),fun k b hk=>?_,fun i j g bi bj hij hi hj hio=>?_,fun b hb hn T hT he p hp=>?_⟩
 ·have:=h b (List.mem_of_getElem? hk);exact⟨this.1,fun hn=>⟨(this.2 hn).1,(this.2 hn).2.1⟩⟩
 ·rw[ho bi (List.mem_of_getElem? hi)] at hio;cases hio
 ·refine⟨((h b hb).2 hn).2.2 T hT he p hp,fun hbo=>?_,fun c hc hco=>?_⟩
  ·rw[ho b hb] at hbo;cases hbo
  ·rw[ho c hc] at hco;cases hco
def qg3{p:Program}{fits:TypeId->Bool}{d e count off n:Nat}(h:rowAt p fits d e count off n=true):off<=count*p.cellsOf e:=by
 cases d with
 |zero=>cases h
 |succ d=>
  unfold rowAt at h;dsimp only at h
  split at h
  ·cases h
  ·rename_i hs
   have hd:=Nat.div_add_mod off (p.cellsOf e);have hlt:=Nat.mod_lt off (Nat.pos_of_ne_zero hs);rw[Bool.or_eq_true] at h;rcases h with h|h
   ·simp only[Bool.and_eq_true,beq_iff_eq,decide_eq_true_eq] at h;have:p.cellsOf e*(off/p.cellsOf e)<=p.cellsOf e*count:=Nat.mul_le_mul_left _ ae;rw[Nat.mul_comm count];omega
   ·rw[Bool.and_eq_true,decide_eq_true_eq] at h;have:p.cellsOf e*(off/p.cellsOf e+1)<=p.cellsOf e*count:=Nat.mul_le_mul_left _ ae;rw[Nat.mul_add,Nat.mul_one] at this;rw[Nat.mul_comm count];omega
def P7{p:Program}:∀{d e count off u n:Nat},liesAt p d e count off u n=true->off<=count*p.cellsOf e
 |0,_,_,_,_,_,h=>by cases h
 |d+1,e,count,off,u,n,h=>by
  unfold liesAt at h;rw[Bool.or_eq_true] at h;rcases h with h|h
  ·exact qg3 h
  ·split at h
   ·exact P7 h
   ·cases h
def qkc{W:World}{r:Reach}{base:Nat}{a:Addr}{e n:Nat}(h:W.has Tryz.prog r base a e n):∃(g:Nat) (pre:List Value) (N:Nat),a=⟨g,pre.length,none⟩∧rP (Bs.of W) W ⟨some g,86,pre++[],N,false⟩ g:=by
 obtain⟨_,hsp,row,cells,hsh,hl⟩:=h;obtain⟨g,off,spot⟩:=a;simp only at hsp hsh hl;subst hsp;unfold World.shape? at hsh
 split at hsh
 ·rename_i cur elem fr heq
  cases hsh;have h1:=P7 hl;have h2:off<=cur.size:=Nat.le_trans h1 (Nat.div_mul_le_self _ _);have hpl:(cur.toList.take off).length=off:=CX
  refine⟨g,cur.toList.take off,cur.size,by rw[hpl],.inl ⟨cur,⟨_,_,heq,(fun h=>zf),(show 86<dn by decide)⟩,rfl,?_⟩,fun h=>zf⟩
  show cur.toList.take (cur.toList.take off++[]).length=cur.toList.take off++[];rw[List.append_nil,hpl]
 ·cases hsh
abbrev VH(W:World)(b:aJ):Prop:=(∀g,b.base=some g->rP (Bs.of W) W b g)∧(b.base=none->b.cs=[]∧b.n=0∧∀T:NP,IK T=true->b.e=gE T->∀p∈T,tK W p)
def qqj{W:World}:∀{L:List aJ},List.foldr (fun b p=>(b.own=false∧VH W b)∧p) True L->bg (Bs.of W) L W:=fun {L} h=>by
 have key:∀L:List aJ,List.foldr (fun b p=>(b.own=false∧VH W b)∧p) True L->∀b∈L,b.own=false∧VH W b:=by
  intro L
  induction L with
  |nil=>intro _ b hb;cases hb
  |cons a L ih=>
   intro h b hb;rcases List.mem_cons.1 hb with rfl|hb
   ·exact h.1
   ·exact ih h.2 b hb
 exact qn7 (fun b hb=>(key L h b hb).1) (fun b hb=>(key L h b hb).2)
def Su{W:World}{b:Option Nat}{e N:Nat}{cs:List Value}(he:e<dn)(h1:∀g,b=some g->rP (Bs.of W) W ⟨b,e,cs,N,false⟩ g)(h2:b=none->cs=[]∧N=0):VH W ⟨b,e,cs,N,false⟩:=
 ⟨h1,fun hn=>⟨(h2 hn).1,(h2 hn).2,fun T _ he'=>absurd (he'▸he) (JJ T)⟩⟩
section
variable{H:Type}{enc:TypeId×Value->H}{w:World}
theorem ce5:Tryz.prog.cellsOf 5=1:=ak
theorem qsi:Tryz.prog.cellsOf 22=1:=ak
theorem qsj:Tryz.prog.cellsOf 24=4:=ak
theorem qsk:Tryz.prog.cellsOf 26=9:=ak
theorem qqk:Tryz.prog.cellsOf 86=4:=ak
abbrev Rd(w:World)(enc:TypeId×Value->H)(fuel t:Nat)(cs:List Value)(x:DataW H×List MemPlace):Prop:=DataW.trod enc Tryz.prog w 0 (fun _=>true) true fuel t cs=some x
def oU8{fuel:Nat}{c:Value}{x:DataW H×List MemPlace}(h:Rd w enc fuel 5 [c] x):∃m:Nat,m<256∧c= .int .u8 (m:Nat):=by
 obtain⟨n,e,_,hk⟩:=DataW.trod_int Tryz.underlying5 h;simp only[Lit.wf,Bool.and_eq_true,decide_eq_true_eq] at hk;have h1:0<=n:=hk.1;have h2:n<=255:=hk.2;refine⟨n.toNat,ae,?_⟩;rw[Int.toNat_of_nonneg h1]
 simpa using e
def qsl{fuel:Nat}{cs:List Value}{x:DataW H×List MemPlace}(h:Rd w enc fuel 86 cs x):∃s:sJ,okS s∧cs=kF s:=by
 obtain⟨xs,n,_,rfl,hl,hlen,hf⟩:=DataW.trod_struct Tryz.underlying86 h;rw[qqk] at hl
 match cs,hl,xs,hlen with
 |[c0,c1,c2,c3],_,[y0,y1,y2,y3],_=>
  have f0:Rd w enc n 5 ((([c0,c1,c2,c3]:List Value).drop 0).take (Tryz.prog.cellsOf 5)) y0:=hf 0 _ rfl;have f1:Rd w enc n 5 ((([c0,c1,c2,c3]:List Value).drop 1).take (Tryz.prog.cellsOf 5)) y1:=hf 1 _ rfl;have f2:Rd w enc n 5 ((([c0,c1,c2,c3]:List Value).drop 2).take (Tryz.prog.cellsOf 5)) y2:=hf 2 _ rfl;have f3:Rd w enc n 5 ((([c0,c1,c2,c3]:List Value).drop 3).take (Tryz.prog.cellsOf 5)) y3:=hf 3 _ rfl;rw[ce5] at f0 f1 f2 f3;obtain⟨a,ha,rfl⟩:=oU8 f0;obtain⟨b,hb,rfl⟩:=oU8 f1;obtain⟨c,hc,rfl⟩:=oU8 f2;obtain⟨d,hd,rfl⟩:=oU8 f3;exact⟨⟨a,b,c,d⟩,⟨ha,hb,hc,hd⟩,rfl⟩
structure qkd(w:World)(l:List sJ)(b:Option Nat)(pre:List Value)(N cap:Nat):Prop where
 le:l.length<=cap
 ok:∀s∈l,okS s
 blk:VH w ⟨b,86,pre++ai kF l,N,false⟩
def qn8{r:Reach}{b0 fuel:Nat}{v:Value}{x:DataW H×List MemPlace}(hval:Cell.ok Tryz.prog w r b0 22 v)(h:Rd w enc fuel 22 [v] x):
 ∃(l:List sJ) (b:Option Nat) (pre:List Value) (N cap:Nat),v=ay b pre.length l.length cap∧qkd w l b pre N cap:=by
 rcases DataW.trod_slice Tryz.underlying22 h with⟨h1,_⟩|⟨a,len,cap,elems,rest,m,hm,h1,h2,_,hlc,_,hel,hx,_,_⟩
 ·obtain rfl:v= .slice none 0 0:=by simpa using h1
  exact⟨[],none,[],0,0,rfl,Nat.le_refl _,bI,Su ax (fun g hg=>by cases hg) fun _=>⟨rfl,rfl⟩⟩
 ·obtain rfl:v= .slice (some a) len cap:=by simpa using h1
  rw[qqk] at hx;obtain⟨F,hF⟩:=qg1 (α:=sJ) ⟨0,0,0,0⟩ (n:=len) (p:=fun i s=>okS s∧w.cells? 0 (a.add (i*4)) 4=some (kF s)) (fun i hi=>by
 obtain⟨y,hy⟩:∃y,elems[i]? =some y:=⟨_,List.getElem?_eq_getElem (by omega)⟩;have hxi:=hx i hi;rw[hy] at hxi;obtain⟨row,r1,r2⟩:=Option.bind_eq_some_iff.1 hxi;obtain⟨s,hs,rfl⟩:=qsl r2;exact⟨s,hs,r1⟩)
  by_cases h0:len=0
  ·subst h0;unfold Cell.ok at hval;rw[Tryz.underlying22] at hval;obtain⟨g,pre,N,rfl,hB⟩:=qkc hval.2.2;exact⟨[],some g,pre,N,cap,rfl,Nat.zero_le _,bI,Su ax (fun g' hg'=>by cases hg';exact hB) fun h=>zf⟩
  ·have hSB:ai kF ((List.range len).map F)=(List.range len).flatMap fun i=>kF (F i):=by
    unfold ai;rw[List.flatMap_map]
   have hlen:((List.range len).map F).length=len:=bI;have hne:ai kF ((List.range len).map F)≠[]:=fun e=>by
    have:=congrArg List.length e;rw[lW.length,hlen] at this;simp at this;omega
   obtain⟨g,pre,N,rfl,hB⟩:=qg2 (w:=w) (a:=a) 86 ax hne (by
 rw[hSB];exact Yd (k:=4) (fun i hi=>(hF i hi).2) (fun i hi=>rfl) (by decide))
   refine⟨(List.range len).map F,some g,pre,N,cap,by rw[hlen];rfl,by rw[hlen];exact hlc,fun s hs=>?_,Su ax (fun g' hg'=>by cases hg';exact hB) fun h=>zf⟩
   obtain⟨i,hi,rfl⟩:=List.mem_map.1 hs;exact(hF i (List.mem_range.1 hi)).1
def qql{r:Reach}{b0 fuel:Nat}{c0 c1 c2 c3:Value}{x:DataW H×List MemPlace}(hval:Cell.ok Tryz.prog w r b0 22 c3)(h:Rd w enc fuel 24 [c0,c1,c2,c3] x):
 ∃(t x y:Nat) (l:List sJ) (b:Option Nat) (pre:List Value) (N cap:Nat),(t<256∧x<256∧y<256)∧[c0,c1,c2,c3]=[.int .u8 (t:Nat),.int .u8 (x:Nat),.int .u8 (y:Nat),ay b pre.length l.length cap]∧qkd w l b pre N cap:=by
 obtain⟨xs,n,_,rfl,hl,hlen,hf⟩:=DataW.trod_struct Tryz.underlying24 h
 match xs,hlen with
 |[y0,y1,y2,y3],_=>
  have f0:Rd w enc n 5 ((([c0,c1,c2,c3]:List Value).drop 0).take (Tryz.prog.cellsOf 5)) y0:=hf 0 _ rfl;have f1:Rd w enc n 5 ((([c0,c1,c2,c3]:List Value).drop 1).take (Tryz.prog.cellsOf 5)) y1:=hf 1 _ rfl;have f2:Rd w enc n 5 ((([c0,c1,c2,c3]:List Value).drop 2).take (Tryz.prog.cellsOf 5)) y2:=hf 2 _ rfl;have f3:Rd w enc n 22 ((([c0,c1,c2,c3]:List Value).drop 3).take (Tryz.prog.cellsOf 22)) y3:=hf 3 _ rfl;rw[ce5] at f0 f1 f2;rw[qsi] at f3;obtain⟨a,ha,rfl⟩:=oU8 f0;obtain⟨b,hb,rfl⟩:=oU8 f1;obtain⟨c,hc,rfl⟩:=oU8 f2;obtain⟨l,bb,pre,N,cap,rfl,hs⟩:=qn8 hval f3;exact⟨a,b,c,l,bb,pre,N,cap,⟨ha,hb,hc⟩,rfl,hs⟩
def qke{r:Reach}{b0:Nat}{v:Value}{d:DataW H}{ps:List MemPlace}(hval:Value.okWide Tryz.prog w r b0 26 v)(hd:DataW.Trod enc Tryz.prog w 0 (fun _=>true) true 26 v d ps):
 ∃(ta xa ya tb xb yb ch:Nat) (a b:List sJ) (ab:Option Nat) (pa:List Value) (aN ac:Nat) (bb:Option Nat) (pb:List Value) (bN bc:Nat),(ta<256∧xa<256∧ya<256∧tb<256∧xb<256∧yb<256∧ch<256)∧
  v= .agg #[.int .u8 (ta:Nat),.int .u8 (xa:Nat),.int .u8 (ya:Nat),ay ab pa.length a.length ac,.int .u8 (tb:Nat),.int .u8 (xb:Nat),.int .u8 (yb:Nat),ay bb pb.length b.length bc,.int .u8 (ch:Nat)]∧qkd w a ab pa aN ac∧qkd w b bb pb bN bc:=by
 obtain⟨cs,rfl,hcs⟩:=okWide_struct Tryz.underlying26 hval;obtain⟨fuel,hf⟩:=hd;have hrow:Row.okWide Tryz.prog w r b0 26 cs:=by
  unfold Value.okWide at hval;rw[Tryz.underlying26] at hval;obtain⟨cs',e,_,h⟩:=hval;cases e;exact h
 obtain⟨ts,hts,_,hall⟩:=hrow;obtain rfl:ts=[5,5,5,22,5,5,5,22,5]:=Option.some.inj (hts.symm.trans (show Tryz.prog.cellTypes Tryz.prog.depth 26=some [5,5,5,22,5,5,5,22,5] by kernel_rfl));obtain⟨xs,n,hn,hx,hl,hlen,hf⟩:=DataW.trod_struct Tryz.underlying26 hf;rw[qsk] at hl;obtain⟨cl⟩:=cs
 match cl,hl,xs,hlen with
 |[c0,c1,c2,c3,c4,c5,c6,c7,c8],_,[y0,y1,y2],_=>
  have f0:Rd w enc n 24 ((([c0,c1,c2,c3,c4,c5,c6,c7,c8]:List Value).drop 0).take (Tryz.prog.cellsOf 24)) y0:=hf 0 _ rfl;have f1:Rd w enc n 24 ((([c0,c1,c2,c3,c4,c5,c6,c7,c8]:List Value).drop 4).take (Tryz.prog.cellsOf 24)) y1:=hf 1 _ rfl;have f2:Rd w enc n 5 ((([c0,c1,c2,c3,c4,c5,c6,c7,c8]:List Value).drop 8).take (Tryz.prog.cellsOf 5)) y2:=hf 2 _ rfl;rw[qsj] at f0 f1;rw[ce5] at f2;obtain⟨u3,hu3,hok3⟩:=hall 3 c3 rfl;obtain rfl:u3=22:=(by simpa using hu3.symm);obtain⟨u7,hu7,hok7⟩:=hall 7 c7 rfl;obtain rfl:u7=22:=(by simpa using hu7.symm);have ok:∀c,Cell.okWide Tryz.prog w r b0 22 c->Cell.ok Tryz.prog w r b0 22 c:=fun c hok=>by
   unfold Cell.okWide at hok;rw[Tryz.underlying22] at hok;exact hok
  obtain⟨ta,xa,ya,a,ab,pa,aN,ac,⟨h1,h2,h3⟩,e1,sa⟩:=qql (ok c3 hok3) f0;obtain⟨tb,xb,yb,b,bb,pb,bN,bc,⟨h4,h5,h6⟩,e2,sb⟩:=qql (ok c7 hok7) f1;obtain⟨ch,h7,rfl⟩:=oU8 f2;simp only[List.cons.injEq,and_true] at e1 e2;obtain⟨rfl,rfl,rfl,rfl⟩:=e1;obtain⟨rfl,rfl,rfl,rfl⟩:=e2;exact⟨ta,xa,ya,tb,xb,yb,ch,a,b,ab,pa,aN,ac,bb,pb,bN,bc,⟨h1,h2,h3,h4,h5,h6,h7⟩,rfl,sa,sb⟩
end
end Go.Proofs.YtaffcpfhedadhaaGreatDoor
