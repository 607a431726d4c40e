/-
  Part 40 (chapter 32): lemmas, walks. Each theorem states its own conditions.
-/
import Derived.Shelf.SlSortCmp.WholeK
import Derived.Shelf.SlSortCmp.NoneTotal
import Derived.Lib.Repeat
import Derived.Sort.Grow
import Derived.Sort.EncStr
import Derived.ChangeSame
import Derived.OpenShut
import Derived.RowKit3
import Derived.ProofKit
import Derived.Deep.Slices
import Derived.Carry
import Derived.ChangeMaps5
import Derived.Test.YtaffcpfhedadhaaGreatDoorCards
import Derived.Test.YtaffcpfhedadhaaGreatDoorTie
import Derived.Deep.DeepHandedRow
import Derived.Lib.LaidTab
import Derived.Lib.SliceRun
import Derived.Test.YtaffcpfhedadhaaGreatDoorA36
import Derived.Test.YtaffcpfhedadhaaGreatDoorA37
set_option linter.all false
set_option maxRecDepth 20000
set_option maxHeartbeats 20000000
namespace Go.Via
open Go
def kE(s:sW):List Value:=[.int .u8 (s.time:Nat),.int .u8 (s.x:Nat),.int .u8 (s.y:Nat),.int .u8 (s.kind:Nat)]
def SpV(s:sW):Value:= .agg #[.int .u8 (s.time:Nat),.int .u8 (s.x:Nat),.int .u8 (s.y:Nat),.int .u8 (s.kind:Nat)]
theorem lT:iW sW kE 4:=⟨fun _=>rfl,fun x v hv=>List.all_eq_true.1 (show(kE x).all (·.oneCell')=true from rfl) v hv⟩
def okS(s:sW):Prop:=s.time<256∧s.x<256∧s.y<256∧s.kind<256
def Io(s:zV):List Value:=[.bool (decide ((s.t:Rat).num<0)),.string (bQ (s.t:Rat).num.natAbs),.bool false,.string (dm (s.t:Rat)),.bool (decide ((s.x:Rat).num<0)),.string (bQ (s.x:Rat).num.natAbs),.bool false,.string (dm (s.x:Rat)),.bool (decide ((s.y:Rat).num<0)),.string (bQ (s.y:Rat).num.natAbs),.bool false,.string (dm (s.y:Rat))]
def SmV(s:zV):Value:= .agg #[.bool (decide ((s.t:Rat).num<0)),.string (bQ (s.t:Rat).num.natAbs),.bool false,.string (dm (s.t:Rat)),.bool (decide ((s.x:Rat).num<0)),.string (bQ (s.x:Rat).num.natAbs),.bool false,.string (dm (s.x:Rat)),.bool (decide ((s.y:Rat).num<0)),.string (bQ (s.y:Rat).num.natAbs),.bool false,.string (dm (s.y:Rat))]
def iW.subP{α:Type}{c:α->List Value}{k:Nat}(h:iW α c k)(pre:List Value){l:List α}{i:Nat}{x:α}(hx:l[i]? =some x)(o n:Nat)(hn:o+n<=k):((pre++aj c l).drop (pre.length+(i*k+o))).take n=((c x).drop o).take n:=by
 rw[List.drop_length_add_append];exact h.sub hx o n hn
def zX(last:zV)(s:sW):zV:=⟨last.t+1+(s.time%8:Nat),(s.x%64:Nat),(s.y%64:Nat)⟩
def swS(last:zV)(s:sW):zV:=⟨last.t,(s.y%64:Nat),(s.x%64:Nat)⟩
def EH(o:List PU)(alone:Bool)(f n:zV):PU:=⟨⟨rl (f.t:Rat),rl (n.t:Rat),!o.isEmpty&& !alone,false⟩,qjK f n⟩
def xY(s:zV):PU:=⟨⟨rl (s.t:Rat),rl (s.t:Rat),false,false⟩,⟨(s.x:Rat),0,(s.y:Rat),0⟩⟩
theorem xZ{α:Type}{l:List α}{i:Nat}{s:α}(hx:l[i]? =some s):l.drop i=s::l.drop (i+1):=by
 obtain⟨h1,h2⟩:=List.getElem?_eq_some_iff.1 hx;rw[<-h2,List.getElem_cons_drop]
section
variable{l:List sW}{i:Nat}{s:sW}{last:zV}{alone:Bool}{o:List PU}
theorem qg6(hx:l[i]? =some s)(hk:s.kind%8=0):iI (l.drop i) last alone o=iI (l.drop (i+1)) (zX last s) true o:=by
 rw[xZ hx,iI];simp only[hk];rfl
theorem qg7(hx:l[i]? =some s)(hk:s.kind%8=1):iI (l.drop i) last alone o=iI (l.drop (i+1)) (zX last s) false (o++[EH o alone (swS last s) (zX last s)]):=by
 rw[xZ hx,iI];simp only[hk];rfl
theorem qg8(hx:l[i]? =some s)(h0:s.kind%8≠0)(hk:s.kind%8≠1):iI (l.drop i) last alone o=iI (l.drop (i+1)) (zX last s) false (o++[EH o alone last (zX last s)]):=by
 rw[xZ hx,iI];simp only[if_neg h0,if_neg hk,decide_eq_false h0];rfl
theorem qaO:iI (l.drop l.length) last alone o=if alone=true then o++[xY last] else o:=by
 rw[List.drop_length,iI];rfl
end
structure J4(s:zV)(n:Nat):Prop where
 t0:0<=s.t
 t1:s.t+8*n<=100
 x0:0<=s.x
 x1:s.x<=63
 y0:0<=s.y
 y1:s.y<=63
def Ip{a:zV}{s:sW}{n:Nat}(h:J4 a (n+1)):J4 (zX a s) n:=by
 have h0:=h.t0;have h1:=h.t1;exact⟨by show 0<=a.t+1+_;omega,by show a.t+1+((s.time%8:Nat):Int)+8*n<=100;omega,by show(0:Int)<=((s.x%64:Nat):Int);omega,by show((s.x%64:Nat):Int)<=63;omega,by show(0:Int)<=((s.y%64:Nat):Int);omega,by show((s.y%64:Nat):Int)<=63;omega⟩
def qg9{a:zV}{s:sW}{n:Nat}(h:J4 a n):J4 (swS a s) n:=
 ⟨h.t0,h.t1,by show(0:Int)<=((s.y%64:Nat):Int);omega,by show((s.y%64:Nat):Int)<=63;omega,by show(0:Int)<=((s.x%64:Nat):Int);omega,by show((s.x%64:Nat):Int)<=63;omega⟩
theorem J4.t{a:zV}{n:Nat}(h:J4 a n):bY (a.t:Rat)<=2:=lh (by have:=h.t0;omega) (by have:=h.t1;omega)
theorem J4.x{a:zV}{n:Nat}(h:J4 a n):bY (a.x:Rat)<=2:=lh (by have:=h.x0;omega) (by have:=h.x1;omega)
theorem J4.y{a:zV}{n:Nat}(h:J4 a n):bY (a.y:Rat)<=2:=lh (by have:=h.y0;omega) (by have:=h.y1;omega)
def qku{a b:zV}{m n:Nat}(ha:J4 a m)(hb:J4 b n):jP (qjK a b)<=15:=by
 have dt:=BX hb.t ha.t;have dx:=BX hb.x ha.x;have dy:=BX hb.y ha.y;have sx:=Fb dx dt;have sy:=Fb dy dt;have qx:=BX ha.x (wF sx ha.t);have qy:=BX ha.y (wF sy ha.t);unfold jP qjK;dsimp only;omega
def Sm2(u:PU):Prop:=SmE 2 u.i.f∧SmE 2 u.i.t∧jP u.f<=15
def qaP{a:zV}{n:Nat}(h:J4 a n):SmE 2 (rl (a.t:Rat)):=⟨⟨_,rfl⟩,vC h.t (Nat.le_refl _)⟩
def qaQ{o:List PU}{alone:Bool}{a b:zV}{m n:Nat}(ha:J4 a m)(hb:J4 b n):Sm2 (EH o alone a b):=⟨qaP ha,qaP hb,qku ha hb⟩
def qcJ{a:zV}{n:Nat}(h:J4 a n):Sm2 (xY a):=⟨qaP h,qaP h,by
 have:=h.x;have:=h.y;have:=vz;show max (max (bY (a.x:Rat)) (bY 0)) (max (bY (a.y:Rat)) (bY 0))<=15;omega⟩
def zA{α:Type}{P:α->Prop}{o:List α}{x:α}(ho:∀u∈o,P u)(hx:P x):∀u∈o++[x],P u:=fun u hu=>by
 rcases List.mem_append.1 hu with h|h
 ·exact ho u h
 ·rw[List.mem_singleton] at h;exact h▸hx
def EI:∀{l:List sW} {last:zV} {alone:Bool} {o:List PU},J4 last l.length->(∀u∈o,Sm2 u)->∀u∈iI l last alone o,Sm2 u
 |[],last,alone,o,h,ho=>by
  rw[iI]
  split
  ·exact zA ho (qcJ h)
  ·exact ho
 |s::l,last,alone,o,h,ho=>by
  by_cases h0:s.kind%8=0
  ·rw[show iI (s::l) last alone o=iI l (zX last s) true o from qg6 (l:=s::l) (i:=0) rfl h0];exact EI (Ip h) ho
  ·by_cases h1:s.kind%8=1
   ·rw[show iI (s::l) last alone o=_ from qg7 (l:=s::l) (i:=0) rfl h1];exact EI (l:=l) (Ip h) (zA ho (qaQ (qg9 h) (Ip h)))
   ·rw[show iI (s::l) last alone o=_ from qg8 (l:=s::l) (i:=0) rfl h0 h1];exact EI (l:=l) (Ip h) (zA ho (qaQ h (Ip h)))
def J5:∀{l:List sW} {last:zV} {alone:Bool} {o:List PU},(alone=true∨0<o.length)->0<(iI l last alone o).length∧(iI l last alone o).length<=o.length+l.length+1
 |[],last,alone,o,h=>by
  rw[iI]
  split
  ·simp
  ·rename_i ha;exact⟨h.resolve_left ha,by simp⟩
 |s::l,last,alone,o,h=>by
  by_cases h0:s.kind%8=0
  ·rw[show iI (s::l) last alone o=iI l (zX last s) true o from qg6 (l:=s::l) (i:=0) rfl h0];have:=J5 (l:=l) (last:=zX last s) (alone:=true) (o:=o) (.inl rfl);simp only[List.length_cons];omega
  ·by_cases h1:s.kind%8=1
   ·rw[show iI (s::l) last alone o=_ from qg7 (l:=s::l) (i:=0) rfl h1];have:=J5 (l:=l) (last:=zX last s) (alone:=false) (o:=o++[EH o alone (swS last s) (zX last s)]) (.inr (by simp));simp only[List.length_append,List.length_cons,List.length_nil] at this ⊢;rw[show List.drop (0+1) (s::l)=l from rfl];omega
   ·rw[show iI (s::l) last alone o=_ from qg8 (l:=s::l) (i:=0) rfl h0 h1];have:=J5 (l:=l) (last:=zX last s) (alone:=false) (o:=o++[EH o alone last (zX last s)]) (.inr (by simp));simp only[List.length_append,List.length_cons,List.length_nil] at this ⊢;rw[show List.drop (0+1) (s::l)=l from rfl];omega
def st0(t x y:Nat):zV:=⟨(t%16:Nat),(x%64:Nat),(y%64:Nat)⟩
def NP{t x y n:Nat}(hn:n<=6):J4 (st0 t x y) n:=⟨by show(0:Int)<=((t%16:Nat):Int);omega,by show((t%16:Nat):Int)+8*n<=100;omega,by show(0:Int)<=((x%64:Nat):Int);omega,by show((x%64:Nat):Int)<=63;omega,by show(0:Int)<=((y%64:Nat):Int);omega,by show((y%64:Nat):Int)<=63;omega⟩
def Iq(t x y:Nat)(l:List sW):List PU:=iI l (st0 t x y) true []
theorem yI{t x y:Nat}{l:List sW}(h6:l.length<=6):jA t x y l=qJ (Iq t x y l):=by
 unfold jA Iq;rw[List.take_of_length_le h6];rfl
section
variable{t x y:Nat}{l:List sW}
def Ir(h6:l.length<=6):Go.Via.Ends (SmE 2) (Iq t x y l):=fun u hu=>by
 have h:=EI (l:=l) (NP h6) (o:=[]) (by simp) u hu;exact⟨h.1,h.2.1⟩
def NQ{t x y:Nat}{l:List sW}:ou iD (Iq t x y l):=(CJ (l:=l) (last:=st0 t x y) (alone:=true) (out:=[]) ⟨List.Pairwise.nil,by simp⟩ (by simp[Go.Via.Ends]) (by simp)).1
def NR(h6:l.length<=6):0<(Iq t x y l).length∧(Iq t x y l).length<=7:=by
 have:=J5 (l:=l) (last:=st0 t x y) (alone:=true) (o:=[]) (.inl rfl);unfold Iq;simp only[List.length_nil] at this;omega
def qaR(h6:l.length<=6):∀u∈Iq t x y l,jM u.i<=1000∧jP u.f<=1000:=fun u hu=>by
 have h:=EI (l:=l) (NP h6) (o:=[]) (by simp) u hu;exact⟨tJ (Nat.le_trans h.1.2 (by omega)) (Nat.le_trans h.2.1.2 (by omega)),Nat.le_trans h.2.2 (by omega)⟩
def Wj{f:Ln}{t:Rl}(hf:jP f<=15)(ht:fV t<=2):jP (jJ f t)<=100:=by
 have h3:=qg t;have a0:=rO f;have a1:=rP f;have a2:=rQ f;have a3:=rU f;have z:=vz;have h1:bY (sG (qx f) t.p)<=50:=by
  have h:=xU (qx f) t.p;have e:bY (qx f).c2<=2:=z;have e0:bY (qx f).c0=bY f.x0:=rfl;have e1:bY (qx f).c1=bY f.x1:=rfl;omega
 have h2:bY (sG (qy f) t.p)<=50:=by
  have h:=xU (qy f) t.p;have e:bY (qy f).c2<=2:=z;have e0:bY (qy f).c0=bY f.y0:=rfl;have e1:bY (qy f).c1=bY f.y1:=rfl;omega
 unfold jJ
 split
 ·show max (max (bY (sG (qx f) t.p)) (bY 0)) (max (bY (sG (qy f) t.p)) (bY 0))<=100;omega
 ·omega
def Qy(h6:l.length<=6):Go.Via.Ends (SmE 2) (jA t x y l):=by
 rw[yI h6];exact(PY (qgl 2) (NQ) (Ir h6)).2
def NS(h6:l.length<=6):GX (jA t x y l):=fun u hu=>by
 have he:=Qy h6 u hu;refine⟨tJ (Nat.le_trans he.1.2 (by omega)) (Nat.le_trans he.2.2 (by omega)),?_⟩;rw[yI h6] at hu;refine PZ (P:=fun f=>jP f<=100) (fun v hv=>?_) u hu;have h:=EI (l:=l) (NP h6) (o:=[]) (by simp) v hv;exact⟨Nat.le_trans h.2.2 (by omega),Wj h.2.2 h.1.2,Wj h.2.2 h.2.1.2⟩
def NT(h6:l.length<=6):(jA t x y l).length<=21:=by
 rw[yI h6];have:= @P5 (Iq t x y l);have:=(NR (t:=t) (x:=x) (y:=y) h6).2;omega
end
def Wl{t x y u v w:Nat}{l m:List sW}:GL (jA t x y l) (jA u v w m):=⟨(Gh t x y l).1,(Gh u v w m).1,(Gh t x y l).2,(Gh u v w m).2⟩
def iW.neP{α:Type}{c:α->List Value}{k:Nat}(h:iW α c k)(hk:0<k)(pre:List Value){l:List α}(hl:0<l.length):pre++aj c l≠[]:=fun e=>h.ne hk hl (List.append_eq_nil_iff.1 e).2
def qaS{f a:zV}{s:sW}(h:f.t=a.t):((zX a s).t:Rat)-(f.t:Rat)≠0:=fun e=>by
 have e1:((zX a s).t:Rat)=(f.t:Rat):=(by grind);have e2:=Rat.intCast_inj.1 e1;rw[h] at e2;have e3:a.t+1+((s.time%8:Nat):Int)=a.t:=e2;omega
def qkv{n:Nat}{a:zV}(h:J4 a n):(if-9223372036854775808<=(a.t:Rat).num∧(a.t:Rat).num<=9223372036854775807 then(a.t:Rat).num else 0)=a.t:=by
 have h0:=h.t0;have h1:=h.t1;rw[Rat.num_intCast,if_pos ⟨by omega,by omega⟩]
def qox{last:zV}{s:sW}{n:Nat}{f:zV}(h:J4 last n)(hf:f=if s.kind%8=1 then swS last s else last):J4 f n∧f.t=last.t:=by
 subst hf;split
 ·exact⟨qg9 h,rfl⟩
 ·exact⟨h,rfl⟩
def qqv{l:List sW}{i:Nat}{s:sW}{last f:zV}{alone:Bool}{o:List PU}(hx:l[i]? =some s)(h0:s.kind%8≠0)(hf:f=if s.kind%8=1 then swS last s else last):iI (l.drop i) last alone o=iI (l.drop (i+1)) (zX last s) false (o++[EH o alone f (zX last s)]):=by
 subst hf
 by_cases h1:s.kind%8=1
 ·rw[if_pos h1];exact qg7 hx h1
 ·rw[if_neg h1];exact qg8 hx h0 h1
theorem qkw{o:List PU}{alone:Bool}{f n:zV}(h:o.isEmpty=false):(EH o alone f n).i=⟨rl (f.t:Rat),rl (n.t:Rat),!alone,false⟩:=by unfold EH;rw[h];rfl
theorem qkx{o:List PU}{alone:Bool}{f n:zV}(h:o.isEmpty=true):(EH o alone f n).i=⟨rl (f.t:Rat),rl (n.t:Rat),false,false⟩:=by unfold EH;rw[h];rfl
end Go.Via
namespace Go.Proofs.YtaffcpfhedadhaaGreatDoor
open Go Go.RowKit Go.Via Go.ChangeShapes Go.WideShapes
def YH{w w':World}(h:Below w.heap.size w w')(may:MemPlace->Prop):w.keptBut w' may:=by
 have hb:∀b,b<w.heap.size->w'.heap[b]? =w.heap[b]? :=h.block;refine⟨h.os,h.output,fun i hi=>?_⟩
 rw[hb i hi]
 split
 ·rename_i e1 e2
  rw[e1] at e2;cases e2;exact⟨rfl,rfl,rfl,fun _ _=>rfl⟩
 ·rename_i e1 e2
  rw[e1] at e2;cases e2;exact Or.inr ⟨rfl,rfl⟩
 ·rfl
def qha{α:Type}(a0:α){n:Nat}{p:Nat->α->Prop}(h:∀i,i<n->∃x,p i x):∃f:Nat->α,∀i,i<n->p i (f i):=by
 classical
 refine⟨fun i=>if h':i<n then Classical.choose (h i h') else a0,fun i hi=>?_⟩
 show p i (if h':i<n then Classical.choose (h i h') else a0)
 rw[dif_pos hi];exact Classical.choose_spec (h i hi)
def qhb{w:World}{a:Addr}{cs:List Value}(e:TypeId)(he:e<dA)(hne:cs≠[])(h:∀(j:Nat) (v:Value),cs[j]? =some v->w.cell? (a.add j)=some v):
 ∃(g:Nat) (pre:List Value) (N:Nat),a=⟨g,pre.length,none⟩∧rY (Bs.of w) w ⟨some g,e,pre++cs,N,false⟩ g:=by
 obtain⟨c0,l,rfl⟩:=List.exists_cons_of_ne_nil hne;have h0:=h 0 c0 rfl;rw[show a.add 0=a by simp[Addr.add]] at h0;obtain⟨g,off,spot⟩:=a;have h0':=h0;unfold World.cell? at h0'
 split at h0'
 ·rename_i cur e0 fr heq
  split at h0'
  ·cases h0'
  ·rename_i hsp
   have hsn:spot=none:=by cases spot with|none=>rfl|some z=>simp at hsp
   subst hsn;have hoff:off<cur.size:=(Array.getElem?_eq_some_iff.1 h0').1;have hpl:(cur.toList.take off).length=off:=by simp;omega
   refine⟨g,cur.toList.take off,cur.size,by rw[hpl],?_⟩;refine⟨.inl ⟨cur,⟨e0,fr,heq,(fun h=>by cases h),he⟩,rfl,?_⟩,fun h=>by cases h⟩
   refine List.ext_getElem? fun j=>?_
   show(cur.toList.take (cur.toList.take off++c0::l).length)[j]? =_;rw[List.length_append,hpl]
   by_cases hj:j<off
   ·rw[List.getElem?_append_left (by rw[hpl];exact hj),List.getElem?_take,List.getElem?_take,if_pos (by omega),if_pos hj]
   ·rw[List.getElem?_append_right (by rw[hpl];omega),hpl,List.getElem?_take]
    split
    ·rename_i hj2
     obtain⟨v,hv⟩:∃v,(c0::l)[j-off]? =some v:=⟨_,List.getElem?_eq_getElem (by omega)⟩;have k2:=h _ _ hv;rw[kG] at k2;unfold World.cell? at k2;simp only[heq] at k2;rw[show off+(j-off)=j by omega] at k2;rw[hv,<-k2];simp
    ·rename_i hj2
     rw[List.getElem?_eq_none (by omega)]
 ·cases h0'
theorem Wn{f:Nat->List Value}{k:Nat}:∀{n:Nat},(∀i,i<n->(f i).length=k)->((List.range n).flatMap f).length=n*k
 |0,_=>by simp
 |n+1,h=>by rw[List.range_succ,List.flatMap_append,List.length_append,Wn (n:=n) (fun i hi=>h i (by omega))];simp[h n (by omega)];rw[Nat.succ_mul]
def YI{w:World}{a:Addr}{k n:Nat}{f:Nat->List Value}(hf:∀i,i<n->w.cells? 0 (a.add (i*k)) k=some (f i))(hk:∀i,i<n->(f i).length=k)(h0:0<k):
 ∀(j:Nat) (v:Value),((List.range n).flatMap f)[j]? =some v->w.cell? (a.add j)=some v:=by
 induction n with
 |zero=>intro j v h;simp at h
 |succ n ih=>
  intro j v h;rw[List.range_succ,List.flatMap_append] at h;have hl:=Wn (f:=f) (k:=k) (n:=n) (fun i hi=>hk i (by omega))
  by_cases hj:j<n*k
  ·rw[List.getElem?_append_left (by rw[hl];exact hj)] at h;exact ih (fun i hi=>hf i (by omega)) (fun i hi=>hk i (by omega)) j v h
  ·rw[List.getElem?_append_right (by rw[hl];omega),hl] at h;simp only[List.flatMap_cons,List.flatMap_nil,List.append_nil] at h;have hjl:j-n*k<k:=by
    have:=(List.getElem?_eq_some_iff.1 h).1
    rwa [hk n (by omega)] at this
   obtain⟨_,_,hc⟩:=World.cells?_some (hf n (by omega));have:=hc (j-n*k) hjl;rw[h,Addr.add_add] at this;rw[<-this]
   congr 2
   omega
def qoy{W:World}{L:List aH}(ho:∀b∈L,b.own=false)(h:∀b∈L,(∀g,b.base=some g->rY (Bs.of W) W b g)∧(b.base=none->b.cs=[]∧b.n=0∧∀T:Oo,Jf T=true->b.e=gE T->∀p∈T,ui W p)):aX (Bs.of W) L W:=by
 refine⟨mF.of (eG.refl _ _),fun k b hk=>?_,fun i j g bi bj hij hi hj hio=>?_,fun b hb hn T hT he p hp=>?_⟩
 ·have:=h b (List.mem_of_getElem? hk);exact⟨this.1,fun hn=>⟨(this.2 hn).1,(this.2 hn).2.1⟩⟩
 ·rw[ho bi (List.mem_of_getElem? hi)] at hio;cases hio
 ·refine⟨((h b hb).2 hn).2.2 T hT he p hp,fun hbo=>?_,fun c hc hco=>?_⟩
  ·rw[ho b hb] at hbo;cases hbo
  ·rw[ho c hc] at hco;cases hco
def qhc{p:Program}{fits:TypeId->Bool}{d e count off n:Nat}(h:rowAt p fits d e count off n=true):off<=count*p.cellsOf e:=by
 cases d with
 |zero=>cases h
 |succ d=>
  unfold rowAt at h;dsimp only at h
  split at h
  ·cases h
  ·rename_i hs
   have hd:=Nat.div_add_mod off (p.cellsOf e);have hlt:=Nat.mod_lt off (Nat.pos_of_ne_zero hs);rw[Bool.or_eq_true] at h;rcases h with h|h
   ·simp only[Bool.and_eq_true,beq_iff_eq,decide_eq_true_eq] at h;have:p.cellsOf e*(off/p.cellsOf e)<=p.cellsOf e*count:=Nat.mul_le_mul_left _ (by omega);rw[Nat.mul_comm count];omega
   ·rw[Bool.and_eq_true,decide_eq_true_eq] at h;have:p.cellsOf e*(off/p.cellsOf e+1)<=p.cellsOf e*count:=Nat.mul_le_mul_left _ (by omega);rw[Nat.mul_add,Nat.mul_one] at this;rw[Nat.mul_comm count];omega
def Qz{p:Program}:∀{d e count off u n:Nat},liesAt p d e count off u n=true->off<=count*p.cellsOf e
 |0,_,_,_,_,_,h=>by cases h
 |d+1,e,count,off,u,n,h=>by
  unfold liesAt at h;rw[Bool.or_eq_true] at h;rcases h with h|h
  ·exact qhc h
  ·split at h
   ·exact Qz h
   ·cases h
def qky{W:World}{r:Reach}{base:Nat}{a:Addr}{e n:Nat}(h:W.has Tryz.prog r base a e n):∃(g:Nat) (pre:List Value) (N:Nat),a=⟨g,pre.length,none⟩∧rY (Bs.of W) W ⟨some g,86,pre++[],N,false⟩ g:=by
 obtain⟨_,hsp,row,cells,hsh,hl⟩:=h;obtain⟨g,off,spot⟩:=a;simp only at hsp hsh hl;subst hsp;unfold World.shape? at hsh
 split at hsh
 ·rename_i cur elem fr heq
  cases hsh;have h1:=Qz hl;have h2:off<=cur.size:=Nat.le_trans h1 (Nat.div_mul_le_self _ _);have hpl:(cur.toList.take off).length=off:=by simp;omega
  refine⟨g,cur.toList.take off,cur.size,by rw[hpl],.inl ⟨cur,⟨_,_,heq,(fun h=>by cases h),(show 86<dA by decide)⟩,rfl,?_⟩,fun h=>by cases h⟩
  show cur.toList.take (cur.toList.take off++[]).length=cur.toList.take off++[];rw[List.append_nil,hpl]
 ·cases hsh
abbrev Wp(W:World)(b:aH):Prop:=(∀g,b.base=some g->rY (Bs.of W) W b g)∧(b.base=none->b.cs=[]∧b.n=0∧∀T:Oo,Jf T=true->b.e=gE T->∀p∈T,ui W p)
def qqw{W:World}:∀{L:List aH},List.foldr (fun b p=>(b.own=false∧Wp W b)∧p) True L->aX (Bs.of W) L W:=fun {L} h=>by
 have key:∀L:List aH,List.foldr (fun b p=>(b.own=false∧Wp W b)∧p) True L->∀b∈L,b.own=false∧Wp W b:=by
  intro L
  induction L with
  |nil=>intro _ b hb;cases hb
  |cons a L ih=>
   intro h b hb;rcases List.mem_cons.1 hb with rfl|hb
   ·exact h.1
   ·exact ih h.2 b hb
 exact qoy (fun b hb=>(key L h b hb).1) (fun b hb=>(key L h b hb).2)
def Tn{W:World}{b:Option Nat}{e N:Nat}{cs:List Value}(he:e<dA)(h1:∀g,b=some g->rY (Bs.of W) W ⟨b,e,cs,N,false⟩ g)(h2:b=none->cs=[]∧N=0):Wp W ⟨b,e,cs,N,false⟩:=
 ⟨h1,fun hn=>⟨(h2 hn).1,(h2 hn).2,fun T _ he'=>absurd (he'▸he) (Kq T)⟩⟩
section
variable{H:Type}{enc:TypeId×Value->H}{w:World}
theorem ce4:Tryz.prog.cellsOf 4=1:=by kernel_rfl
theorem ce5:Tryz.prog.cellsOf 5=1:=by kernel_rfl
theorem qsm:Tryz.prog.cellsOf 22=1:=by kernel_rfl
theorem qsn:Tryz.prog.cellsOf 24=4:=by kernel_rfl
theorem qso:Tryz.prog.cellsOf 26=9:=by kernel_rfl
theorem qsp:Tryz.prog.cellsOf 48=5:=by kernel_rfl
theorem qqx:Tryz.prog.cellsOf 86=4:=by kernel_rfl
abbrev Rd(w:World)(enc:TypeId×Value->H)(fuel t:Nat)(cs:List Value)(x:DataW H×List MemPlace):Prop:=DataW.trod enc Tryz.prog w 0 (fun _=>true) true fuel t cs=some x
def oU8{fuel:Nat}{c:Value}{x:DataW H×List MemPlace}(h:Rd w enc fuel 5 [c] x):∃m:Nat,m<256∧c= .int .u8 (m:Nat):=by
 obtain⟨n,e,_,hk⟩:=DataW.trod_int Tryz.underlying5 h;simp only[Lit.wf,Bool.and_eq_true,decide_eq_true_eq] at hk;have h1:0<=n:=hk.1;have h2:n<=255:=hk.2;refine⟨n.toNat,by omega,?_⟩;rw[Int.toNat_of_nonneg h1]
 simpa using e
def qsq{fuel:Nat}{cs:List Value}{x:DataW H×List MemPlace}(h:Rd w enc fuel 86 cs x):∃s:sW,okS s∧cs=kE s:=by
 obtain⟨xs,n,_,rfl,hl,hlen,hf⟩:=DataW.trod_struct Tryz.underlying86 h;rw[qqx] at hl
 match cs,hl,xs,hlen with
 |[c0,c1,c2,c3],_,[y0,y1,y2,y3],_=>
  have f0:Rd w enc n 5 ((([c0,c1,c2,c3]:List Value).drop 0).take (Tryz.prog.cellsOf 5)) y0:=hf 0 _ rfl;have f1:Rd w enc n 5 ((([c0,c1,c2,c3]:List Value).drop 1).take (Tryz.prog.cellsOf 5)) y1:=hf 1 _ rfl;have f2:Rd w enc n 5 ((([c0,c1,c2,c3]:List Value).drop 2).take (Tryz.prog.cellsOf 5)) y2:=hf 2 _ rfl;have f3:Rd w enc n 5 ((([c0,c1,c2,c3]:List Value).drop 3).take (Tryz.prog.cellsOf 5)) y3:=hf 3 _ rfl;rw[ce5] at f0 f1 f2 f3;obtain⟨a,ha,rfl⟩:=oU8 f0;obtain⟨b,hb,rfl⟩:=oU8 f1;obtain⟨c,hc,rfl⟩:=oU8 f2;obtain⟨d,hd,rfl⟩:=oU8 f3;exact⟨⟨a,b,c,d⟩,⟨ha,hb,hc,hd⟩,rfl⟩
structure qkz(w:World)(l:List sW)(b:Option Nat)(pre:List Value)(N cap:Nat):Prop where
 le:l.length<=cap
 ok:∀s∈l,okS s
 blk:Wp w ⟨b,86,pre++aj kE l,N,false⟩
def qoz{r:Reach}{b0 fuel:Nat}{v:Value}{x:DataW H×List MemPlace}(hval:Cell.ok Tryz.prog w r b0 22 v)(h:Rd w enc fuel 22 [v] x):
 ∃(l:List sW) (b:Option Nat) (pre:List Value) (N cap:Nat),v=aA b pre.length l.length cap∧qkz w l b pre N cap:=by
 rcases DataW.trod_slice Tryz.underlying22 h with⟨h1,_⟩|⟨a,len,cap,elems,rest,m,hm,h1,h2,_,hlc,_,hel,hx,_,_⟩
 ·obtain rfl:v= .slice none 0 0:=by simpa using h1
  exact⟨[],none,[],0,0,rfl,Nat.le_refl _,by simp,Tn (by decide) (fun g hg=>by cases hg) fun _=>⟨rfl,rfl⟩⟩
 ·obtain rfl:v= .slice (some a) len cap:=by simpa using h1
  rw[qqx] at hx;obtain⟨F,hF⟩:=qha (α:=sW) ⟨0,0,0,0⟩ (n:=len) (p:=fun i s=>okS s∧w.cells? 0 (a.add (i*4)) 4=some (kE s)) (fun i hi=>by
 obtain⟨y,hy⟩:∃y,elems[i]? =some y:=⟨_,List.getElem?_eq_getElem (by omega)⟩;have hxi:=hx i hi;rw[hy] at hxi;obtain⟨row,r1,r2⟩:=Option.bind_eq_some_iff.1 hxi;obtain⟨s,hs,rfl⟩:=qsq r2;exact⟨s,hs,r1⟩)
  by_cases h0:len=0
  ·subst h0;unfold Cell.ok at hval;rw[Tryz.underlying22] at hval;obtain⟨g,pre,N,rfl,hB⟩:=qky hval.2.2;exact⟨[],some g,pre,N,cap,rfl,Nat.zero_le _,by simp,Tn (by decide) (fun g' hg'=>by cases hg';exact hB) fun h=>by cases h⟩
  ·have hSB:aj kE ((List.range len).map F)=(List.range len).flatMap fun i=>kE (F i):=by
    unfold aj;rw[List.flatMap_map]
   have hlen:((List.range len).map F).length=len:=(by simp);have hne:aj kE ((List.range len).map F)≠[]:=fun e=>by
    have:=congrArg List.length e;rw[lT.length,hlen] at this;simp at this;omega
   obtain⟨g,pre,N,rfl,hB⟩:=qhb (w:=w) (a:=a) 86 (by decide) hne (by
 rw[hSB];exact YI (k:=4) (fun i hi=>(hF i hi).2) (fun i hi=>rfl) (by decide))
   refine⟨(List.range len).map F,some g,pre,N,cap,by rw[hlen];rfl,by rw[hlen];exact hlc,fun s hs=>?_,Tn (by decide) (fun g' hg'=>by cases hg';exact hB) fun h=>by cases h⟩
   obtain⟨i,hi,rfl⟩:=List.mem_map.1 hs;exact(hF i (List.mem_range.1 hi)).1
def qqy{r:Reach}{b0 fuel:Nat}{c0 c1 c2 c3:Value}{x:DataW H×List MemPlace}(hval:Cell.ok Tryz.prog w r b0 22 c3)(h:Rd w enc fuel 24 [c0,c1,c2,c3] x):
 ∃(t x y:Nat) (l:List sW) (b:Option Nat) (pre:List Value) (N cap:Nat),(t<256∧x<256∧y<256)∧[c0,c1,c2,c3]=[.int .u8 (t:Nat),.int .u8 (x:Nat),.int .u8 (y:Nat),aA b pre.length l.length cap]∧qkz w l b pre N cap:=by
 obtain⟨xs,n,_,rfl,hl,hlen,hf⟩:=DataW.trod_struct Tryz.underlying24 h
 match xs,hlen with
 |[y0,y1,y2,y3],_=>
  have f0:Rd w enc n 5 ((([c0,c1,c2,c3]:List Value).drop 0).take (Tryz.prog.cellsOf 5)) y0:=hf 0 _ rfl;have f1:Rd w enc n 5 ((([c0,c1,c2,c3]:List Value).drop 1).take (Tryz.prog.cellsOf 5)) y1:=hf 1 _ rfl;have f2:Rd w enc n 5 ((([c0,c1,c2,c3]:List Value).drop 2).take (Tryz.prog.cellsOf 5)) y2:=hf 2 _ rfl;have f3:Rd w enc n 22 ((([c0,c1,c2,c3]:List Value).drop 3).take (Tryz.prog.cellsOf 22)) y3:=hf 3 _ rfl;rw[ce5] at f0 f1 f2;rw[qsm] at f3;obtain⟨a,ha,rfl⟩:=oU8 f0;obtain⟨b,hb,rfl⟩:=oU8 f1;obtain⟨c,hc,rfl⟩:=oU8 f2;obtain⟨l,bb,pre,N,cap,rfl,hs⟩:=qoz hval f3;exact⟨a,b,c,l,bb,pre,N,cap,⟨ha,hb,hc⟩,rfl,hs⟩
def qkA{r:Reach}{b0:Nat}{v:Value}{d:DataW H}{ps:List MemPlace}(hval:Value.okWide Tryz.prog w r b0 26 v)(hd:DataW.Trod enc Tryz.prog w 0 (fun _=>true) true 26 v d ps):
 ∃(ta xa ya tb xb yb ch:Nat) (a b:List sW) (ab:Option Nat) (pa:List Value) (aN ac:Nat) (bb:Option Nat) (pb:List Value) (bN bc:Nat),(ta<256∧xa<256∧ya<256∧tb<256∧xb<256∧yb<256∧ch<256)∧
  v= .agg #[.int .u8 (ta:Nat),.int .u8 (xa:Nat),.int .u8 (ya:Nat),aA ab pa.length a.length ac,.int .u8 (tb:Nat),.int .u8 (xb:Nat),.int .u8 (yb:Nat),aA bb pb.length b.length bc,.int .u8 (ch:Nat)]∧qkz w a ab pa aN ac∧qkz w b bb pb bN bc:=by
 obtain⟨cs,rfl,hcs⟩:=okWide_struct Tryz.underlying26 hval;obtain⟨fuel,hf⟩:=hd;have hrow:Row.okWide Tryz.prog w r b0 26 cs:=by
  unfold Value.okWide at hval;rw[Tryz.underlying26] at hval;obtain⟨cs',e,_,h⟩:=hval;cases e;exact h
 obtain⟨ts,hts,_,hall⟩:=hrow;obtain rfl:ts=[5,5,5,22,5,5,5,22,5]:=Option.some.inj (hts.symm.trans (show Tryz.prog.cellTypes Tryz.prog.depth 26=some [5,5,5,22,5,5,5,22,5] by kernel_rfl));obtain⟨xs,n,hn,hx,hl,hlen,hf⟩:=DataW.trod_struct Tryz.underlying26 hf;rw[qso] at hl;obtain⟨cl⟩:=cs
 match cl,hl,xs,hlen with
 |[c0,c1,c2,c3,c4,c5,c6,c7,c8],_,[y0,y1,y2],_=>
  have f0:Rd w enc n 24 ((([c0,c1,c2,c3,c4,c5,c6,c7,c8]:List Value).drop 0).take (Tryz.prog.cellsOf 24)) y0:=hf 0 _ rfl;have f1:Rd w enc n 24 ((([c0,c1,c2,c3,c4,c5,c6,c7,c8]:List Value).drop 4).take (Tryz.prog.cellsOf 24)) y1:=hf 1 _ rfl;have f2:Rd w enc n 5 ((([c0,c1,c2,c3,c4,c5,c6,c7,c8]:List Value).drop 8).take (Tryz.prog.cellsOf 5)) y2:=hf 2 _ rfl;rw[qsn] at f0 f1;rw[ce5] at f2;obtain⟨u3,hu3,hok3⟩:=hall 3 c3 rfl;obtain rfl:u3=22:=(by simpa using hu3.symm);obtain⟨u7,hu7,hok7⟩:=hall 7 c7 rfl;obtain rfl:u7=22:=(by simpa using hu7.symm);have ok:∀c,Cell.okWide Tryz.prog w r b0 22 c->Cell.ok Tryz.prog w r b0 22 c:=fun c hok=>by
   unfold Cell.okWide at hok;rw[Tryz.underlying22] at hok;exact hok
  obtain⟨ta,xa,ya,a,ab,pa,aN,ac,⟨h1,h2,h3⟩,e1,sa⟩:=qqy (ok c3 hok3) f0;obtain⟨tb,xb,yb,b,bb,pb,bN,bc,⟨h4,h5,h6⟩,e2,sb⟩:=qqy (ok c7 hok7) f1;obtain⟨ch,h7,rfl⟩:=oU8 f2;simp only[List.cons.injEq,and_true] at e1 e2;obtain⟨rfl,rfl,rfl,rfl⟩:=e1;obtain⟨rfl,rfl,rfl,rfl⟩:=e2;exact⟨ta,xa,ya,tb,xb,yb,ch,a,b,ab,pa,aN,ac,bb,pb,bN,bc,⟨h1,h2,h3,h4,h5,h6,h7⟩,rfl,sa,sb⟩
def qkB{r:Reach}{b0:Nat}{v:Value}{d:DataW H}{ps:List MemPlace}(hval:Value.okWide Tryz.prog w r b0 48 v)(hd:DataW.Trod enc Tryz.prog w 0 (fun _=>true) true 48 v d ps):
 ∃(ia ib ic id:Nat) (s:Bool),(ia<256∧ib<256∧ic<256∧id<256)∧v= .agg #[.int .u8 (ia:Nat),.int .u8 (ib:Nat),.int .u8 (ic:Nat),.int .u8 (id:Nat),.bool s]:=by
 obtain⟨cs,rfl,hcs⟩:=okWide_struct Tryz.underlying48 hval;obtain⟨fuel,hf⟩:=hd;obtain⟨xs,n,hn,hx,hl,hlen,hf⟩:=DataW.trod_struct Tryz.underlying48 hf;rw[qsp] at hl;obtain⟨cl⟩:=cs
 match cl,hl,xs,hlen with
 |[c0,c1,c2,c3,c4],_,[y0,y1,y2,y3,y4],_=>
  have f0:Rd w enc n 5 ((([c0,c1,c2,c3,c4]:List Value).drop 0).take (Tryz.prog.cellsOf 5)) y0:=hf 0 _ rfl;have f1:Rd w enc n 5 ((([c0,c1,c2,c3,c4]:List Value).drop 1).take (Tryz.prog.cellsOf 5)) y1:=hf 1 _ rfl;have f2:Rd w enc n 5 ((([c0,c1,c2,c3,c4]:List Value).drop 2).take (Tryz.prog.cellsOf 5)) y2:=hf 2 _ rfl;have f3:Rd w enc n 5 ((([c0,c1,c2,c3,c4]:List Value).drop 3).take (Tryz.prog.cellsOf 5)) y3:=hf 3 _ rfl;have f4:Rd w enc n 4 ((([c0,c1,c2,c3,c4]:List Value).drop 4).take (Tryz.prog.cellsOf 4)) y4:=hf 4 _ rfl;rw[ce5] at f0 f1 f2 f3;rw[ce4] at f4;obtain⟨a,ha,rfl⟩:=oU8 f0;obtain⟨b,hb,rfl⟩:=oU8 f1;obtain⟨c,hc,rfl⟩:=oU8 f2;obtain⟨d,hd,rfl⟩:=oU8 f3;obtain⟨s,e,_⟩:=DataW.trod_bool Tryz.underlying4 f4;obtain rfl:c4= .bool s:=(by simpa using e);exact⟨a,b,c,d,s,⟨ha,hb,hc,hd⟩,rfl⟩
end
end Go.Proofs.YtaffcpfhedadhaaGreatDoor
namespace Go.Proofs.YtaffcpfhedadhaaGreatDoor
open Go.ChangeShapes Go.WideShapes Go.ChangeAt Go.RowKit
def own:ownKnob Tryz.prog.godebug=none:=by kernel_rfl
noncomputable def Iu(os:Os):World:=
 let w0:=World.holding Tryz.prog os ⟨#[],#[],[]⟩
 {w0 with heap:=(w0.heap.modify 2 fun
 | .cells _ t frozen=> .cells (List.map (Value.int .u8) ([128,191,160,191,128,159,144,191,128,143]++List.replicate 22 0)).toArray t frozen
 |o=>o).modify 1 fun
 | .cells _ t frozen=> .cells (List.map (fun(z:Nat)=>Value.int .u8 z) Go.Pinned.utf8FirstZ).toArray t frozen
 |o=>o}
set_option maxRecDepth 100000 in
def qhd(os:Os)(args:Array Value):laidMet Tryz.prog [("unicode/utf8.acceptRanges",Rows.laid_unicode_utf8_acceptRanges),("unicode/utf8.first",Rows.laid_unicode_utf8_first)] ((Iu os).forCall (fun _ _=>0) ⟨#[],args,[]⟩).memory:=
 laidMet_of_run' 8 (by kernel_rfl) (by kernel_rfl)
end Go.Proofs.YtaffcpfhedadhaaGreatDoor
namespace Go.Via
open Go
def qcK{α:Type}{c:α->List Value}{k:Nat}(h:iW α c k)(hk:0<k)(pre:List Value){l:List α}{b:Option Nat}(hb:b=none->pre++aj c l=[]):l.length=0∨∃g,b=some g:=
 sV h hk fun e=>(List.append_eq_nil_iff.1 (hb e)).2
def qsr{x y:Int}(m n:Nat)(hm:m<256)(hx:x=(m:Int))(hy:y=(n:Int)):IntKind.u8.wrap (x.tdiv y)=((m/n:Nat):Int):=by
 subst hx;subst hy;rw[show(m:Int).tdiv (n:Int)=((m/n:Nat):Int) from(Int.ofNat_tdiv m n).symm];have h:=Nat.div_le_self m n
 generalize m/n=q at h ⊢
 simp[IntKind.wrap,IntKind.bits,IntKind.signed];omega
def qhe{x y:Int}(m n:Nat)(hx:x=(m:Int))(hy:y=(n:Int)):IntKind.u8.wrap (x+y)=(((m+n)%256:Nat):Int):=by
 subst hx;subst hy;simp[IntKind.wrap,IntKind.bits,IntKind.signed]
def GM(ch:Nat)(s:sW):sW:=⟨s.time,(s.x+ch/16)%256,(s.y+1)%256,s.kind⟩
def chS(ch:Nat)(l:List sW):List sW:=if 0<l.length∧1<ch%4 then(match l[ch/4%l.length]? with
 |some s=>l.set (ch/4%l.length) (GM ch s)
 |none=>l) else l
theorem Tq(ch:Nat)(l:List sW):(chS ch l).length=l.length:=by
 unfold chS
 split
 ·split
  ·rw[List.length_set]
  ·rfl
 ·rfl
def qoA{ch:Nat}{l:List sW}(h:∀s∈l,okS s):∀s∈chS ch l,okS s:=fun s hs=>by
 unfold chS at hs
 split at hs
 ·split at hs
  ·rename_i u hu
   rcases List.mem_or_eq_of_mem_set hs with e|e
   ·exact h s e
   ·have hu':=h u (List.mem_of_getElem? hu);subst e;exact⟨hu'.1,Nat.mod_lt _ (by decide),Nat.mod_lt _ (by decide),hu'.2.2.2⟩
  ·exact h s hs
 ·exact h s hs
def qkC{ch k:Nat}{l:List sW}{s:sW}(h0:0<l.length)(h1:1<ch%4)(hk:k=ch/4%l.length)(hx:l[k]? =some s):chS ch l=(l.set k ⟨s.time,(s.x+ch/16)%256,s.y,s.kind⟩).set k (GM ch s):=by
 subst hk;unfold chS;rw[if_pos ⟨h0,h1⟩,hx,List.set_set]
theorem qhf{ch:Nat}{l:List sW}(h:¬(0<l.length∧1<ch%4)):chS ch l=l:=by unfold chS;rw[if_neg h]
def uu(ta xa ya:Nat)(a:List sW)(tb xb yb:Nat)(b:List sW)(ch:Nat):List PU:=if 0<ch%4 then jA ta xa ya (chS ch a) else jA tb xb yb b
section
variable{ta xa ya tb xb yb ch:Nat}{a b:List sW}
def qkD(h:¬0<ch%4):uu ta xa ya a tb xb yb b ch=jA tb xb yb b:=by unfold uu;rw[if_neg h]
def NU(h:0<ch%4):uu ta xa ya a tb xb yb b ch=jA ta xa ya (chS ch a):=by unfold uu;rw[if_pos h]
def qhg(ha:a.length<=6)(hb:b.length<=6):(uu ta xa ya a tb xb yb b ch).length<=21:=by
 unfold uu;split
 ·exact NT (by rw[Tq];exact ha)
 ·exact NT hb
def qhh(ha:a.length<=6)(hb:b.length<=6):GX (uu ta xa ya a tb xb yb b ch):=by
 unfold uu;split
 ·exact NS (by rw[Tq];exact ha)
 ·exact NS hb
def qhi:GL (jA ta xa ya a) (uu ta xa ya a tb xb yb b ch):=by
 unfold uu;split
 ·exact Wl
 ·exact Wl
end
end Go.Via
namespace Go.Via
open Go
def Wq{f:Ln}{t:Rl}(hf:jP f<=15)(ht:fV t<=2):jP (jJ f t)<=38:=by
 have h3:=qg t;have a0:=rO f;have a1:=rP f;have a2:=rQ f;have a3:=rU f;have z:=vz;have h1:bY (sG (qx f) t.p)<=38:=by
  have h:=xU (qx f) t.p;have e:bY (qx f).c2<=2:=z;have e0:bY (qx f).c0=bY f.x0:=rfl;have e1:bY (qx f).c1=bY f.x1:=rfl;omega
 have h2:bY (sG (qy f) t.p)<=38:=by
  have h:=xU (qy f) t.p;have e:bY (qy f).c2<=2:=z;have e0:bY (qy f).c0=bY f.y0:=rfl;have e1:bY (qy f).c1=bY f.y1:=rfl;omega
 unfold jJ
 split
 ·show max (max (bY (sG (qx f) t.p)) (bY 0)) (max (bY (sG (qy f) t.p)) (bY 0))<=38;omega
 ·omega
def qoB(l:List PU):Prop:=∀u∈l,jM u.i<=2∧jP u.f<=38
section
variable{t x y:Nat}{l:List sW}
def Tt(h6:l.length<=6):qoB (jA t x y l):=fun u hu=>by
 have he:=Qy h6 u hu;refine⟨tJ he.1.2 he.2.2,?_⟩;rw[yI h6] at hu;refine PZ (P:=fun f=>jP f<=38) (fun v hv=>?_) u hu;have h:=EI (l:=l) (NP h6) (o:=[]) (by simp) v hv;exact⟨Nat.le_trans h.2.2 (by omega),Wq h.2.2 h.1.2,Wq h.2.2 h.2.1.2⟩
end
structure Fl(A B:List PU):Prop where
 sa:GX A
 sb:GX B
 H:GL A B
 la:A.length<=21
 lb:B.length<=21
 za:qoB A
 zb:qoB B
def GL.swap{A B:List PU}(H:GL A B):GL B A:=⟨H.sb,H.sa,H.eb,H.ea⟩
def Fl.swap{A B:List PU}(F:Fl A B):Fl B A:=⟨F.sb,F.sa,F.H.swap,F.lb,F.la,F.zb,F.za⟩
section
variable{ta xa ya tb xb yb ch:Nat}{a b:List sW}
def qoC(ha:a.length<=6)(hb:b.length<=6):Fl (jA ta xa ya a) (uu ta xa ya a tb xb yb b ch):=
 ⟨NS ha,qhh ha hb,qhi,NT ha,qhg ha hb,Tt ha,by
 unfold uu;split
 ·exact Tt (by rw[Tq];exact ha)
 ·exact Tt hb⟩
end
abbrev xg(A B:List PU):List lM:=(ag A B).map ay
section
variable{A B:List PU}
theorem Fl.flat(F:Fl A B):ag A B=flatK uB A B:=ig ng F.H.sa F.H.sb F.H.ea F.H.eb
def Fl.PS(F:Fl A B):∀x∈ag A B,(gq x.1.f∧gq x.1.t)∧aK iD x.1.b<aK iD x.1.e:=fun x hx=>by
 rw[F.flat] at hx;exact zo ng F.H.ea F.H.eb x hx
def Fl.cS(F:Fl A B):∀p∈xg A B,gq p.i.f∧gq p.i.t:=fun p hp=>by
 obtain⟨x,hx,rfl⟩:=List.mem_map.1 hp;exact(F.PS x hx).1
theorem Fl.ps(F:Fl A B):∀z∈ag A B,jM z.1<=2∧uC z.2<=324:=fun z hz=>by
 rw[F.flat,qfo] at hz;obtain⟨x,hx,y,hy,e⟩:=hz;unfold uB iV at e
 split at e
 ·simp at e;subst e;exact⟨VZ (F.za x hx).1 (F.zb y hy).1,Nat.le_trans (SC (F.za x hx).2 (F.zb y hy).2) (by omega)⟩
 ·simp at e
def ql2{f:Qd}{t:Rl}(ht:gq t)(hf:uC f<=324)(hz:fV t<=2):fV (Be f t)<=1000:=by
 obtain⟨z,rfl⟩:=ht;rw[uQ];have h:=xU f (z:Rat);have h0:=qi f;have h1:=qj f;have h2:=qM f;have h3:bY (z:Rat)<=2:=Nat.le_trans (qg (rl (z:Rat))) hz;exact vC (by omega) (by omega)
def Fl.sz(F:Fl A B):∀p∈xg A B,jM p.i<=1000∧fV p.a<=1000∧fV p.b<=1000:=fun p hp=>by
 obtain⟨x,hx,rfl⟩:=List.mem_map.1 hp;obtain⟨h1,h2⟩:=F.ps x hx;obtain⟨h3,h4⟩:=(F.PS x hx).1;exact⟨Nat.le_trans h1 (by omega),ql2 h3 h2 (Nat.le_trans (jD _) h1),ql2 h4 h2 (Nat.le_trans (jE _) h1)⟩
theorem Fl.n(F:Fl A B):(xg A B).length<=42:=by
 have h:=uD A B;have h1:=F.la;have h2:=F.lb;rw[List.length_map];omega
def Fl.ne(h:(xg A B).length≠0):ag A B≠[]:=fun e=>h (by rw[xg,e];rfl)
def Fl.mostz(F:Fl A B):fV (bG (xg A B))<=1000:=by
 by_cases h:ag A B=[]
 ·rw[xg,h];exact vC (Nat.le_trans vz (by omega)) (by omega)
 ·rw[MO F.H.sa F.H.sb F.H.ea F.H.eb h];obtain⟨p,hp,e⟩:=Qe (l:=xg A B) (by intro e;exact h (List.map_eq_nil_iff.1 e));have:=F.sz p hp;rcases e with e|e<;>rw[e]
  ·exact this.2.1
  ·exact this.2.2
theorem Fl.most(F:Fl A B)(h:(xg A B).length≠0):fH (xg A B)=bG (xg A B):=(MO F.H.sa F.H.sb F.H.ea F.H.eb (Fl.ne h)).symm
def Fl.ok(F:Fl A B)(h:(xg A B).length≠0):qF A B (xg A B) (fH (xg A B))=0:=qfr F.H.sa F.H.sb F.H.ea F.H.eb (Fl.ne h)
def Fl.comm(F:Fl A B):xg B A=xg A B:=by rw[xg,xg,VP F.H.sa F.H.sb F.H.ea F.H.eb]
def Fl.nil(F:Fl A B)(h:(xg A B).length=0)(c:List lM)(m:Rl):qF A B c m=36:=by
 unfold qF;rw[if_pos (by rw[List.map_eq_nil_iff.1 (List.length_eq_zero_iff.1 h)];rfl)]
def Fl.atz(F:Fl A B){m:Rl}(hz:fV m<=20):fV ((zF A B m).getD (rl 0))<=4000:=by
 cases e:zF A B m with
 |none=>exact vC (Nat.le_trans vz (by omega)) (by omega)
 |some d=>
  obtain⟨x,hx,y,hy,_,_,rfl⟩:=MN e;have h1:=SC (F.za x hx).2 (F.zb y hy).2;exact Nat.le_trans (Su h1 hz) (by omega)
theorem Fl.with(F:Fl A B){x:Rl}(h:decide (aV (bG (xg A B)) x<=0)=true):((if(xg A B).length=0 then(36:Int) else 0) !=0||decide (aV (fH (xg A B)) x<=0))=true:=by
 by_cases h0:(xg A B).length=0
 ·rw[if_pos h0];rfl
 ·rw[F.most h0,h,Bool.or_true]
def Fl.sz5(F:Fl A B):∀p∈xg A B,jM p.i<=5000∧fV p.a<=5000∧fV p.b<=5000:=fun p hp=>by
 have h:=F.sz p hp;omega
end
end Go.Via
namespace Go.Via
open Go
def qp(n:Int):Rat.divInt n 1=(n:Rat):=by have h:=Rat.num_divInt_den (n:Rat);rw[Rat.num_intCast,Rat.den_intCast] at h;exact h
def qaT(t:Rl)(a b:Bool):nJ ⟨rl 0,t,a,b⟩= .agg #[aT,aU,aT,aU,aT,aU,aT,aU,.bool false,.bool (decide (t.p.num<0)),.string (bQ t.p.num.natAbs),.bool false,.string (dm t.p),.bool (decide (t.r.num<0)),.string (bQ t.r.num.natAbs),.bool false,.string (dm t.r),.bool t.n,.bool a,.bool b]:=by
 unfold nJ rl;simp only[VV,dm0,VW]
def qoD(q:Rat):zk ⟨0,q,0,0⟩= .agg #[aT,aU,aT,aU,.bool (decide (q.num<0)),.string (bQ q.num.natAbs),.bool false,.string (dm q),aT,aU,aT,aU,aT,aU,aT,aU]:=by
 unfold zk;simp only[VV,dm0,VW]
def qoE(q:Rat):zk ⟨0,0,q,0⟩= .agg #[aT,aU,aT,aU,aT,aU,aT,aU,.bool (decide (q.num<0)),.string (bQ q.num.natAbs),.bool false,.string (dm q),aT,aU,aT,aU]:=by
 unfold zk;simp only[VV,dm0,VW]
def qqz(p q r:Rat):zk ⟨p,q,r,0⟩= .agg #[.bool (decide (p.num<0)),.string (bQ p.num.natAbs),.bool false,.string (dm p),.bool (decide (q.num<0)),.string (bQ q.num.natAbs),.bool false,.string (dm q),.bool (decide (r.num<0)),.string (bQ r.num.natAbs),.bool false,.string (dm r),aT,aU,aT,aU]:=by
 unfold zk;simp only[VV,dm0,VW]
def rz(n:Int):Rl:=rl (n:Rat)
def qqA{n:Int}(h1: -255<=n)(h2:n<=255):fV (rz n)<=2:=vC (lh h1 h2) (Nat.le_refl _)
def eA1:PU:=⟨⟨rl 0,rz 4,false,false⟩,⟨0,((1:Int):Rat),0,0⟩⟩
def eB1:PU:=⟨⟨rl 0,rz 2,false,false⟩,⟨0,0,((3:Int):Rat),0⟩⟩
def eB2:PU:=⟨⟨rz 2,rz 4,true,false⟩,⟨((-4:Int):Rat),((2:Int):Rat),((3:Int):Rat),0⟩⟩
end Go.Via
namespace Go.Proofs.YtaffcpfhedadhaaGreatDoor
open Go Go.RowKit Go.Via
def iF(n:Int)(h1: -255<=n:=by omega)(h2:n<=255:=by omega):aJ Tryz.prog 36 #[.int .i64 n] (RV (rz n)):=by
 refine wQ 6 Tryz.func36 fun w=>?_;refine A2 ?_;refine Al 9 II (fun g0=>?_);refine A5 ?_;refine Pc (gu n 1) ?_;refine aS 4 (Q (n:Rat)) rfl (congrArg Q (qp n)) ?_;refine(Bu [(0,_)]) (Au) ?_;refine Ss 0 ?_;refine A3 ?_;refine TM 0 ?_;exact congrArg Ending.returned (I9 (n:Rat)).symm
def JD:cZ Tryz.prog 39 [] [] (SR [eA1].length×SR [eB1,eB2].length) (fun z=> .tuple #[z.1.v,z.2.v]) (fun z=>[⟨z.1.b,100,aj aP [eA1],z.1.n,true⟩,⟨z.2.b,100,aj aP [eB1,eB2],z.2.n,true⟩]):=by
 refine sB0 24 Tryz.func39 fun w hL0=>?_;refine A8 ?_;refine Pc (iF 4) ?_;refine(Bu [(1,_)]) (QU) ?_;refine aS 3 (nJ eA1.i) rfl (qaT _ _ _).symm ?_;refine Pc (gu 1 1) ?_;refine aS 4 (Q ((1:Int):Rat)) rfl (congrArg Q (qp 1)) ?_;refine(Bu [(1,_)]) (qih) ?_;refine aS 5 (zk eA1.f) rfl (qoD _).symm ?_;refine(Bu [(0,_),(1,_)]) (wH) ?_;refine Kr 6 (PUV eA1) ?_;refine(Bl 36 [(0,_)]) (D9) (fun g0=>?_);refine A5 ?_;refine Pc (iF 2) ?_;refine(Bu [(1,_)]) (QU) ?_;refine aS 9 (nJ eB1.i) rfl (qaT _ _ _).symm ?_;refine Pc (gu 3 1) ?_;refine aS 10 (Q ((3:Int):Rat)) rfl (congrArg Q (qp 3)) ?_;refine(Bu [(2,_)]) (qii) ?_;refine aS 11 (zk eB1.f) rfl (qoE _).symm ?_;refine(Bu [(0,_),(1,_)]) (wH) ?_;refine Kr 12 (PUV eB1) ?_;refine Pc (iF 2) ?_;refine Pc (iF 4) ?_;refine(Bu [(0,_),(1,_),(2,_)]) (WU) ?_;refine Kr 15 (nJ eB2.i) ?_;refine Pc (gu (-4) 1) ?_;refine aS 16 (Q (((-4):Int):Rat)) rfl (congrArg Q (qp (-4))) ?_;refine Pc (gu 2 1) ?_;refine aS 17 (Q ((2:Int):Rat)) rfl (congrArg Q (qp 2)) ?_;refine Pc (gu 3 1) ?_;refine aS 18 (Q ((3:Int):Rat)) rfl (congrArg Q (qp 3)) ?_;refine(Bu [(0,_),(1,_),(2,_)]) (qmU) ?_;refine aS 19 (zk eB2.f) rfl (qqz _ _ _).symm ?_;refine(Bu [(0,_),(1,_)]) (wH) ?_;refine Kr 20 (PUV eB2) ?_;refine(Bl 72 [(0,_),(1,_)]) (qmW) (fun g1=>?_);refine nI ?_;refine bM rfl (au rfl) (au rfl) (fun w hL=>⟨(⟨some g0,36,1,Nat.le_refl _⟩,⟨some g1,72,2,Nat.le_refl _⟩),?_,hL.pk [some 0,some 1]⟩);exact rfl
def BL(x:Rl)(r:Rat)(hx:fV x<=50000:=by omega)(hr:bY r<=20000:=by omega):aJ Tryz.prog 68 #[RV x,Q r] (.bool (decide (aV x (rl (r*r))<=0))):=by
 have h2:=wF hr hr;refine nV 11 Tryz.func68 fun w=>?_;refine A2 ?_;refine Bp 9 (fun g0=>?_);refine Bp 4 (fun g1=>?_);refine A4 ?_;refine Di [] ?_;refine L9 0 0 ?_;refine L4 1 0 ?_;refine L4 1 0 ?_;refine Pc (bK r r) ?_;refine Pc (wY x (r*r) hx) ?_;refine A5 ?_;refine E0 ?_;exact rfl
def vU(cb:Option Nat)(cn cc:Nat)(x:Rl)(r:Rat)(hx:fV x<=50000:=by omega)(hr:bY r<=20000:=by omega):aJ Tryz.prog 26 #[BD (aA cb 0 cn cc) x,Q r] (.bool (decide (aV x (rl (r*r))<=0))):=by
 refine nV 9 Tryz.func26 fun w=>?_;refine A2 ?_;refine Bp 10 (fun g0=>?_);refine Bp 4 (fun g1=>?_);refine A6 ?_;refine L9 0 1 ?_;refine L4 1 0 ?_;refine Pc (BL x r hx hr) ?_;refine A4 ?_;refine E0 ?_;exact rfl
end Go.Proofs.YtaffcpfhedadhaaGreatDoor
namespace Go.Via
open Go
theorem qoF(x:Rl):(((x.p.den:Int)*(x.p.den:Int))*(x.r.num*(x.r.den:Int))).natAbs=(x.p.den*x.p.den)*(x.r.num.natAbs*x.r.den):=by
 rw[Int.natAbs_mul,Int.natAbs_mul,Int.natAbs_mul];rfl
def qoG{x:Rl}(h:0<=x.r):¬((x.p.den:Int)*(x.p.den:Int))*(x.r.num*(x.r.den:Int))<0:=by
 have h1:0<=x.r.num:=Rat.num_nonneg.2 h;have h2:0<=((x.p.den:Int)*(x.p.den:Int))*(x.r.num*(x.r.den:Int)):=Int.mul_nonneg (Int.mul_nonneg (Int.natCast_nonneg _) (Int.natCast_nonneg _)) (Int.mul_nonneg h1 (Int.natCast_nonneg _));omega
def qhj{x:Rl}(hn:x.n=false):(x.p.num*(x.r.den:Int)+((bV (((x.p.den:Int)*(x.p.den:Int))*(x.r.num*(x.r.den:Int))).natAbs:Nat):Int))/((x.p.den:Int)*(x.r.den:Int))=lS x:=by
 unfold lS;rw[if_neg (by rw[hn];decide),qoF];simp only[Int.natCast_mul]
def qhk(x:Rl):(x.p.den:Int)*(x.r.den:Int)≠0:=Int.mul_ne_zero (by have:=x.p.den_pos;omega) (by have:=x.r.den_pos;omega)
def YJ{x y:Rl}{r:Rat}(h:tX x y=some r):(dO x=true∧dO y=true∧fV x<=1000∧fV y<=1000∧¬Yk x<0∧0<Yk y∧0<aV y (rl ((lS x+1:Int):Rat))∧x.n=false∧jv (lS x)<=4000)∧r=((lS x+1:Int):Rat):=by
 unfold tX at h
 split at h
 ·rename_i hc;exact⟨hc,by injection h with e;exact e.symm⟩
 ·cases h
section
variable{sm:Rl->Rl->Option Rat}{q:Qd}{i:Iv}
def EJ{s:Int}(h:Gx sm q i=some s):aV i.f i.t<0∧∃r,sm i.f i.t=some r∧bY r<=5000∧s=Yk (Be q (rl r)):=by
 unfold Gx at h
 split at h
 ·rename_i hc
  refine⟨hc,?_⟩;rcases hs:sm i.f i.t with _|r
  ·rw[hs] at h;cases h
  ·rw[hs] at h;simp only[Option.bind_some] at h
   split at h
   ·rename_i h5;injection h with e;exact⟨r,rfl,h5,e.symm⟩
   ·cases h
 ·cases h
variable{x:Rl}{k:Nat}{rs:List Rl}{rest:Iv}{o l:List (Iv×Int)}
def ql3(hx:rs[k]? =some x)(hin:CZ i x=false)(h:gK sm q i (rs.drop k) rest o=some l):gK sm q i (rs.drop (k+1)) rest o=some l:=by
 rw[xZ hx,gK,if_pos hin] at h;exact h
def ql4(hx:rs[k]? =some x)(hin:CZ i x=true)(hlt:aV rest.f x<0)(h:gK sm q i (rs.drop k) rest o=some l):∃s,Gx sm q ⟨rest.f,x,rest.fo,true⟩=some s∧gK sm q i (rs.drop (k+1)) ⟨x,rest.t,true,rest.tp⟩ (o++[(⟨rest.f,x,rest.fo,true⟩,s)]++[(⟨x,x,false,false⟩,0)])=some l:=by
 rw[xZ hx,gK,if_neg (by rw[hin];decide),if_pos hlt] at h;rcases hp:Gx sm q ⟨rest.f,x,rest.fo,true⟩ with _|s
 ·rw[hp] at h;cases h
 ·rw[hp] at h;exact⟨s,rfl,by rw[List.append_assoc];exact h⟩
def ql5(hx:rs[k]? =some x)(hin:CZ i x=true)(hge:¬aV rest.f x<0)(h:gK sm q i (rs.drop k) rest o=some l):gK sm q i (rs.drop (k+1)) ⟨x,rest.t,true,rest.tp⟩ (o++[(⟨x,x,false,false⟩,0)])=some l:=by
 rw[xZ hx,gK,if_neg (by rw[hin];decide),if_neg hge] at h;exact h
def qaU(ho:lD rest=true)(h:gK sm q i (rs.drop rs.length) rest o=some l):∃s,Gx sm q rest=some s∧l=o++[(rest,s)]:=by
 rw[List.drop_length,gK,if_pos ho] at h;rcases hp:Gx sm q rest with _|s
 ·rw[hp] at h;cases h
 ·rw[hp] at h;injection h with e;exact⟨s,rfl,e.symm⟩
def qaV(ho:lD rest=false)(h:gK sm q i (rs.drop rs.length) rest o=some l):l=o:=by
 rw[List.drop_length,gK,if_neg (by rw[ho];decide)] at h
 injection h with e;exact e.symm
end
def qhl{q:Qd}(h2:q.c2≠0)(hr:q.c1/(-2*q.c2)*(q.c1/(-2*q.c2))-q.c0/q.c2=0):dL q=[rl (q.c1/(-2*q.c2))]:=by
 unfold dL;rw[if_neg h2];dsimp only;rw[hr,if_neg (by decide),if_pos rfl]
end Go.Via
namespace Go.Proofs.YtaffcpfhedadhaaGreatDoor
open Go Go.RowKit Go.Via
def BM(q:Rat):aJ Tryz.prog 279 #[Q q] (I q.num):=by
 refine wQ 5 Tryz.func279 fun w=>?_;refine A2 ?_;refine Bp 4 (fun g0=>?_);refine Al 2 yh (fun g1=>?_);refine A5 ?_;refine L2 0 0 ?_;refine Ss 1 ?_;refine A3 ?_;refine TL 1 ?_;exact rfl
def NW(z:Int)(h0:¬z<0)(hz:nb z.natAbs<=33554432:=by omega):aJ Tryz.prog 280 #[I z] (.tuple #[I ((bV z.natAbs:Nat):Int),.int .i64 0]):=by
 refine wQ 11 Tryz.func280 fun w=>?_;refine A2 ?_;refine Bp 2 (fun g0=>?_);refine Al 2 yh (fun g1=>?_);refine lW ?_;refine Cd ?_ ?_<;>intro hb0
 ·exact absurd (of_decide_eq_true hb0) h0
 ·refine A6 ?_;refine Pc (Bj z.natAbs hz) ?_;refine Pc (dC false (bV z.natAbs)) ?_;refine Ss 1 ?_;refine A4 ?_;refine bM rfl (bF 1 rfl rfl yS (vs:=[_,_]) rfl rfl (Nat.le_of_ble_eq_true rfl) rfl) (au rfl) (fun w hL=>⟨?_,hL.below⟩);exact rfl
def zM(p q:Rat)(hp:bY p<=4194303:=by omega)(hq:bY q<=4194303:=by omega):aJ Tryz.prog 234 #[Q p,Q q] (Q (p/q)):=by
 refine nV 14 Tryz.func234 fun w=>?_;refine A2 ?_;refine Bp 4 (fun g0=>?_);refine Bp 4 (fun g1=>?_);refine Al 4 qI (fun g2=>?_);refine A4 ?_;refine L4 0 0 ?_;refine L4 1 0 ?_;refine Pc (Bq p q hp hq) ?_;refine A3 ?_;refine Al 4 qI (fun g3=>?_);refine Ss 3 ?_;refine A5 ?_;refine L4 3 0 ?_;refine Ss 2 ?_;refine A3 ?_;refine IV 2 ?_;exact rfl
def Tu(z:Int)(hz:jv z<=8388608:=by omega):aJ Tryz.prog 261 #[I z] (Q (z:Rat)):=by
 refine wQ 12 Tryz.func261 fun w=>?_;refine A2 ?_;refine Bp 2 (fun g0=>?_);refine Al 4 qI (fun g1=>?_);refine A3 ?_;refine Dq [3000000] [0,1,2,3,4,6,7,5,8] ?_;refine L2 0 0 ?_;refine Pc (lY 1) ?_;refine Pc (zH z 1 hz (Nat.le_trans (jQ (by omega) (by omega)) (by omega))) ?_;refine A2 ?_;refine aS 9 (Q (z:Rat)) rfl (congrArg Q (qp z)) ?_;refine Al 4 qI (fun g2=>?_);refine Ss 2 ?_;refine A6 ?_;refine L4 2 0 ?_;refine Ss 1 ?_;refine A3 ?_;refine IV 1 ?_;exact rfl
def Tv(x:Rl)(hx:fV x<=1000)(h0:0<=x.r)(hn:x.n=false):aJ Tryz.prog 260 #[RV x] (I (lS x)):=by
 have e1:=Nat.le_trans (qg x) hx;have e2:=Nat.le_trans (wX x) hx;have n1:=lV e1;have d1:=kU e1;have n2:=lV e2;have d2:=kU e2;have z1:=lU d1 d1;have z2:=lU n2 d2;have z3:=lU z1 z2;have z4:=lU n1 d2;have z5:jv ((bV (((x.p.den:Int)*(x.p.den:Int))*(x.r.num*(x.r.den:Int))).natAbs:Nat):Int)<=4000:=Ah (Nat.le_trans (oH _) z3);have z6:=JI z4 z5;have z7:=lU d1 d2;refine wQ 59 Tryz.func260 fun w=>?_;refine A2 ?_;refine Bp 9 (fun g0=>?_);refine Al 2 yh (fun g1=>?_);refine A3 ?_;refine Dq [3000000] [0,1,3,4,2,5,6,7,8,9] ?_;refine A1 ?_;refine L4 0 0 ?_;refine A1 ?_;refine L4 0 0 ?_;refine Pc (BM x.p) ?_;refine Pc (eP x.p) ?_;refine Al 2 yh (fun g2=>?_);refine Al 2 yh (fun g3=>?_);refine Ss 2 ?_;refine Ss 3 ?_;refine A3 ?_;refine Dq [3000000] [0,1,3,4,2,5,6,7,8,9] ?_;refine A1 ?_;refine L4 0 4 ?_;refine A1 ?_;refine L4 0 4 ?_;refine Pc (BM x.r) ?_;refine Pc (eP x.r) ?_;refine Al 2 yh (fun g4=>?_);refine Al 2 yh (fun g5=>?_);refine Ss 4 ?_;refine Ss 5 ?_;refine A3 ?_;refine Dq [3000000] [0,1,3,4,2,5,6,7,8,9,11,12,10,13] ?_;refine L2 3 0 ?_;refine L2 3 0 ?_;refine L2 4 0 ?_;refine L2 5 0 ?_;refine Pc (lG (x.p.den:Int) (x.p.den:Int)) ?_;refine Pc (lG x.r.num (x.r.den:Int)) ?_;refine Pc (lG ((x.p.den:Int)*(x.p.den:Int)) (x.r.num*(x.r.den:Int))) ?_;refine Pc (NW (((x.p.den:Int)*(x.p.den:Int))*(x.r.num*(x.r.den:Int))) (qoG h0) (Nat.le_trans z3 (by omega))) ?_;refine A2 ?_;refine Al 2 yh (fun g6=>?_);refine Ss 6 ?_;refine A6 ?_;refine L2 2 0 ?_;refine L2 5 0 ?_;refine Pc (lG x.p.num (x.r.den:Int)) ?_;refine Al 2 yh (fun g7=>?_);refine Ss 7 ?_;refine A9 ?_;refine Cd ?_ ?_<;>intro hb0
 ·exact absurd hb0 (by rw[hn];decide)
 ·refine A1 ?_;refine L2 7 0 ?_;refine L2 6 0 ?_;refine Pc (xP (x.p.num*(x.r.den:Int)) ((bV (((x.p.den:Int)*(x.p.den:Int))*(x.r.num*(x.r.den:Int))).natAbs:Nat):Int)) ?_;refine Ss 7 ?_;refine A3 ?_;refine Dq [3000000] [0,1,2,3,4,5,6,9,10,11,7,12,8,13] ?_;refine L2 7 0 ?_;refine L2 3 0 ?_;refine L2 5 0 ?_;refine Pc (lG (x.p.den:Int) (x.r.den:Int)) ?_;refine Pc (yC (x.p.num*(x.r.den:Int)+((bV (((x.p.den:Int)*(x.p.den:Int))*(x.r.num*(x.r.den:Int))).natAbs:Nat):Int)) ((x.p.den:Int)*(x.r.den:Int)) (by omega) (by omega) (qhk x)) ?_;refine A2 ?_;refine aS 55 (I (lS x)) rfl (congrArg I (qhj hn)) ?_;refine Al 2 yh (fun g8=>?_);refine Al 2 yh (fun g9=>?_);refine Ss 8 ?_;refine A1 ?_;refine Ss 9 ?_;refine A6 ?_;refine L2 8 0 ?_;refine Ss 1 ?_;refine A3 ?_;refine TL 1 ?_;exact rfl
def Iw(x y:Rl)(hx:fV x<=1000)(hy:fV y<=1000)(h0:0<=x.r)(hn:x.n=false)(h1:¬Yk x<0)(h2:0<Yk y)(h3:0<aV y (rl ((lS x+1:Int):Rat)))(hf:jv (lS x)<=4000:=by omega):aJ Tryz.prog 235 #[RV x,RV y] (Q ((lS x+1:Int):Rat)):=by
 have f1:jv (lS x+1)<=4002:=JI hf (jQ (z:=1) (by omega) (by omega));have f2:bY ((lS x+1:Int):Rat)<=4002:=qh2 f1 (by omega);refine nV 81 Tryz.func235 fun w=>?_;refine A2 ?_;refine Bp 9 (fun g0=>?_);refine Bp 9 (fun g1=>?_);refine Al 4 qI (fun g2=>?_);refine A6 ?_;refine L9 0 0 ?_;refine Pc (BA x) ?_;refine A2 ?_;refine Rs 18 ?_ ?_<;>intro hb0
 ·exact absurd (of_decide_eq_true hb0) h1
 ·refine lW ?_;refine L9 1 0 ?_;refine Pc (BA y) ?_;refine A4 ?_;refine Cd ?_ ?_<;>intro hb1
  ·exact absurd (of_decide_eq_true hb1) (by show¬Yk y<=0;omega)
  ·refine A5 ?_;refine L9 0 0 ?_;refine Pc (Tv x hx h0 hn) ?_;refine Al 2 yh (fun g3=>?_);refine Ss 3 ?_;refine A3 ?_;refine Dq [3000000] [0,1,2,3,4,5] ?_;refine L2 3 0 ?_;refine Pc (lY 1) ?_;refine Pc (xP (lS x) 1 (by omega) (Nat.le_trans (jQ (by omega) (by omega)) (by omega))) ?_;refine Pc (Tu (lS x+1)) ?_;refine Al 4 qI (fun g4=>?_);refine Ss 4 ?_;refine A5 ?_;refine L9 1 0 ?_;refine L4 4 0 ?_;refine Pc (wY y ((lS x+1:Int):Rat)) ?_;refine A3 ?_;refine Cd ?_ ?_<;>intro hb2
   ·refine A2 ?_;refine L4 4 0 ?_;refine Ss 2 ?_;refine A4 ?_;refine IV 2 ?_;exact rfl
   ·exact absurd h3 (of_decide_eq_false hb2)
end Go.Proofs.YtaffcpfhedadhaaGreatDoor
namespace Go.Via
open Go
def qaW(x:Rl): -1<=Yk x∧Yk x<=1:=by
 have hs:∀q,dD q= -1∨dD q=0∨dD q=1:=fun q=>by rcases dV q with h|h|h<;>simp[h.2]
 have hm:∀{a b:Int},(a= -1∨a=0∨a=1)->(b= -1∨b=0∨b=1)->(a*b= -1∨a*b=0∨a*b=1):=fun h h'=>by
  rcases h with h|h|h<;>rcases h' with h'|h'|h'<;>simp[h,h']
 have hc:∀a b:Rat,mP a b= -1∨mP a b=0∨mP a b=1:=fun a b=>by unfold mP;(repeat' split)<;>simp
 have h1:Yk x= -1∨Yk x=0∨Yk x=1:=by
  unfold Yk pF
  split
  ·exact hs _
  ·split
   ·exact hm (hs _) (hs _)
   ·exact hm (hs _) (hc _ _)
 omega
def Rng(p:Iv×Int):Prop:= -1<=p.2∧p.2<=1
def zB{sm:Rl->Rl->Option Rat}{q:Qd}{i:Iv}:∀{rs:List Rl} {rest:Iv} {o l:List (Iv×Int)},(∀p∈o,Rng p)->gK sm q i rs rest o=some l->∀p∈l,Rng p
 |[],rest,o,l,ho,h=>by
  by_cases e:lD rest=true
  ·obtain⟨s,hp,hl⟩:=qaU (rs:=[]) e h;obtain⟨_,r,_,_,hs⟩:=EJ hp;subst hl;exact zA ho (show-1<=s∧s<=1 by rw[hs];exact qaW _)
  ·have hl:=qaV (rs:=[]) (by simpa using e) h;subst hl;exact ho
 |x::rs,rest,o,l,ho,h=>by
  by_cases hin:CZ i x=true
  ·by_cases hlt:aV rest.f x<0
   ·obtain⟨s,hp,h2⟩:=ql4 (rs:=x::rs) (k:=0) rfl hin hlt h;obtain⟨_,r,_,_,hs⟩:=EJ hp;exact zB (rs:=rs) (zA (zA ho (show Rng ((⟨rest.f,x,rest.fo,true⟩,s):Iv×Int) from(show-1<=s∧s<=1 by rw[hs];exact qaW _))) ⟨show(-1:Int)<=0 by omega,show(0:Int)<=1 by omega⟩) h2
   ·have h2:=ql5 (rs:=x::rs) (k:=0) rfl hin hlt h;exact zB (rs:=rs) (zA ho ⟨show(-1:Int)<=0 by omega,show(0:Int)<=1 by omega⟩) h2
  ·have h2:=ql3 (rs:=x::rs) (k:=0) rfl (by simpa using hin) h;exact zB (rs:=rs) ho h2
def qkE{a b c:Bool}{s:Int}(h1: -1<=s)(h2:s<=1):(([.bool a,.bool b,.bool c]:List Value).drop (s+1).toNat).take 1=[.bool (nG a b c s)]:=by
 rcases(show s= -1∨s=0∨s=1 by omega) with rfl|rfl|rfl<;>rfl
def GN(w:Int->Bool):Bool->List (Iv×Int)->Bool
 |_,[]=>true
 |b,p::ps=> !(b&&w p.2)&&GN w (w p.2) ps
def Ws{sm:Rl->Rl->Option Rat}{w:Int->Bool}{q:Qd}{i:Iv}{r:List Iv}(h:tK sm w q i=some r):∃l,gK sm q i (dL q) i []=some l∧r=oq w l [] false:=by
 unfold tK at h;rcases hs:gK sm q i (dL q) i [] with _|l
 ·rw[hs] at h;cases h
 ·rw[hs] at h;injection h with e;exact⟨l,rfl,e.symm⟩
section
variable{w:Int->Bool}{l:List (Iv×Int)}{k:Nat}{x:Iv×Int}{o:List Iv}{b:Bool}
def ql6(hx:l[k]? =some x)(hn:GN w b (l.drop k)=true):(b&&w x.2)=false∧GN w (w x.2) (l.drop (k+1))=true:=by
 rw[xZ hx,GN,Bool.and_eq_true] at hn;have e:=hn.1;refine⟨?_,hn.2⟩
 revert e
 cases(b&&w x.2)<;>simp
def qoH(hx:l[k]? =some x)(hw:w x.2=true)(hb:b=false):oq w (l.drop k) o b=oq w (l.drop (k+1)) (o++[x.1]) true:=by
 rw[xZ hx,oq,if_pos hw,if_neg (by rw[hb];decide)]
def qqB(hx:l[k]? =some x)(hw:w x.2=false):oq w (l.drop k) o b=oq w (l.drop (k+1)) o false:=by
 rw[xZ hx,oq,if_neg (by rw[hw];decide)]
def qoI:oq w (l.drop l.length) o b=o:=by rw[List.drop_length,oq]
end
end Go.Via
namespace Go.Via
open Go
section
variable{sm:Rl->Rl->Option Rat}{bd:Rat}{P:List (Iv×Qd)}{k:Nat}{x:Iv×Qd}{m:List Iv}
def qkF(hx:P[k]? =some x)(h:Nk sm bd (P.drop k)=some m):∃v m',tK sm (nG false false true) (ql x.2 ⟨bd*bd,0,0⟩) x.1=some v∧Nk sm bd (P.drop (k+1))=some m'∧m=v++m':=by
 rw[xZ hx,Nk] at h;rcases hv:tK sm (nG false false true) (ql x.2 ⟨bd*bd,0,0⟩) x.1 with _|v
 ·rw[hv] at h;cases h
 ·rw[hv] at h;rcases hm:Nk sm bd (P.drop (k+1)) with _|m'
  ·simp only[Option.bind_some] at h;rw[hm] at h;cases h
  ·simp only[Option.bind_some] at h;rw[hm] at h;injection h with e;exact⟨v,m',rfl,rfl,e.symm⟩
theorem qoJ(h:Nk sm bd (P.drop P.length)=some m):m=[]:=by
 rw[List.drop_length,Nk] at h;injection h with e;exact e.symm
end
end Go.Via
namespace Go.Via
open Go
set_option maxRecDepth 100000
def kA:List PU:=[eA1]
def kB:List PU:=[eB1,eB2]
def kP:List lM:=(ag kA kB).map ay
def eP1:lM:=⟨⟨rl 0,rz 2,false,false⟩,rz 9,rz 13⟩
def eIv:Iv:=⟨rl 0,rz 4,true,true⟩
def q3:Rat:=((3:Int):Rat)
def kW:List Iv:=[⟨rl 0,rz 2,true,false⟩,⟨rz 2,rz 4,true,true⟩]
def p1:Iv×Qd:=(⟨rl 0,rz 2,false,false⟩,⟨9,0,1⟩)
def p2:Iv×Qd:=(⟨rz 2,rz 4,true,false⟩,⟨25,-8,1⟩)
theorem qaX:ag kA kB=[p1,p2]:=eX
def qqC:Nk tX q3 (ag kA kB)=some kW:=eX
theorem qhm:ji kW=[eIv]:=eX
def ql7:kP.length=2:=eX
def k_0:kP[0]? =some eP1:=eX
theorem qaY:fH kP=rz 13:=eX
def qqD:qF kA kB kP (fH kP)=0:=eX
def qsu:decide (aV (fH kP) (rl (((4:Int):Rat)*((4:Int):Rat)))<=0)=true:=eX
def qsv:decide (aV (fH kP) (rl (((3:Int):Rat)*((3:Int):Rat)))<=0)=false:=eX
def qoK:GX kA:=by unfold GX;decide+kernel
def qoL:GX kB:=by unfold GX;decide+kernel
def qsw:∀p∈kP,jM p.i<=5000∧fV p.a<=5000∧fV p.b<=5000:=eX
def x8(n:Int):gq (rz n):=⟨n,rfl⟩
def J6:gq (rl 0):=⟨0,by rfl⟩
def qqE:qcz kA:=fun u hu=>by
 rw[kA,List.mem_singleton] at hu;subst hu;exact⟨J6,x8 4⟩
def qqF:qcz kB:=fun u hu=>by
 rw[kB,List.mem_cons,List.mem_singleton] at hu;rcases hu with h|h<;>subst h
 ·exact⟨J6,x8 2⟩
 ·exact⟨x8 2,x8 4⟩
def qqG:GL kA kB:=by
 refine⟨?_,?_,qqE,qqF⟩
 ·unfold ou;decide+kernel
 ·unfold ou;decide+kernel
def qqH:∀x∈ag kA kB,(gq x.1.f∧gq x.1.t)∧aK iD x.1.b<aK iD x.1.e:=fun x hx=>by
 rw[qaX,List.mem_cons,List.mem_singleton] at hx;rcases hx with h|h<;>subst h
 ·exact⟨⟨J6,x8 2⟩,eX⟩
 ·exact⟨⟨x8 2,x8 4⟩,eX⟩
def qsx:∀p∈kP,gq p.i.f∧gq p.i.t:=fun p hp=>by
 obtain⟨x,hx,rfl⟩:=List.mem_map.1 hp;exact(qqH x hx).1
def qsy:iU gq kW:=fun i hi=>by
 rw[kW,List.mem_cons,List.mem_singleton] at hi;rcases hi with h|h<;>subst h
 ·exact⟨J6,x8 2⟩
 ·exact⟨x8 2,x8 4⟩
def qsz:HY iD kW:=by unfold HY;decide+kernel
def qsA:∀x∈kW,jM x<=50000:=eX
def ql8:∀l,gK tX (ql p1.2 ⟨q3*q3,0,0⟩) p1.1 (dL (ql p1.2 ⟨q3*q3,0,0⟩)) p1.1 []=some l->GN (nG false false true) false l=true∧l.length<=100:=fun l h=>by
 have e:gK tX (ql p1.2 ⟨q3*q3,0,0⟩) p1.1 (dL (ql p1.2 ⟨q3*q3,0,0⟩)) p1.1 []=some [(⟨rl 0,rl 0,false,false⟩,0),(⟨rl 0,rz 2,true,false⟩,1)]:=eX;rw[e] at h;injection h with h;subst h;decide
def ql9:∀l,gK tX (ql p2.2 ⟨q3*q3,0,0⟩) p2.1 (dL (ql p2.2 ⟨q3*q3,0,0⟩)) p2.1 []=some l->GN (nG false false true) false l=true∧l.length<=100:=fun l h=>by
 have e:gK tX (ql p2.2 ⟨q3*q3,0,0⟩) p2.1 (dL (ql p2.2 ⟨q3*q3,0,0⟩)) p2.1 []=some [(⟨rz 2,rz 4,true,true⟩,1),(⟨rz 4,rz 4,false,false⟩,0)]:=eX;rw[e] at h;injection h with h;subst h;decide
def Q1:Qd:=ql p1.2 ⟨q3*q3,0,0⟩
def Q2:Qd:=ql p2.2 ⟨q3*q3,0,0⟩
def qqI:Q1.c2≠0∧Q1.c1/(-2*Q1.c2)*(Q1.c1/(-2*Q1.c2))-Q1.c0/Q1.c2=0:=eX
def qqJ:Q2.c2≠0∧Q2.c1/(-2*Q2.c2)*(Q2.c1/(-2*Q2.c2))-Q2.c0/Q2.c2=0:=eX
def qsB:uC Q1<=1000∧jM p1.1<=1000∧dO p1.1.f=true∧dO p1.1.t=true∧lD p1.1=true∧(dL Q1).length<=2∧(∀r∈dL Q1,fV r<=1000∧dO r=true):=eX
def qsC:uC Q2<=1000∧jM p2.1<=1000∧dO p2.1.f=true∧dO p2.1.t=true∧lD p2.1=true∧(dL Q2).length<=2∧(∀r∈dL Q2,fV r<=1000∧dO r=true):=eX
def qsD:(tK tX (nG false false true) Q1 p1.1).map (·.length)=some 1:=eX
def qsE:(tK tX (nG false false true) Q2 p2.1).map (·.length)=some 1:=eX
end Go.Via
