/-
  Part 35 (chapter 32): lemmas, walks. Each theorem states its own conditions.
-/
import Derived.ChangeSame
import Derived.OpenShut
import Derived.RowKit3
import Derived.ProofKit
import Derived.Deep.Slices
import Derived.Carry
import Derived.ChangeMaps5
import Derived.Test.YtaffcpfhedadhaaGreatDoorCards
import Derived.Test.YtaffcpfhedadhaaGreatDoorTie
import Derived.WalkKit
import Derived.Deep.DeepHandedRow
import Derived.Lib.LaidTab
import Derived.Test.YtaffcpfhedadhaaGreatDoorA07
import Derived.Test.YtaffcpfhedadhaaGreatDoorA18
import Derived.Test.YtaffcpfhedadhaaGreatDoorA31
import Derived.Test.YtaffcpfhedadhaaGreatDoorA34
set_option linter.all false
set_option maxRecDepth 20000
set_option maxHeartbeats 20000000
namespace Go.Via
open Go
def jY(s:rJ):List Value:=[.int .u8 (s.time:Nat),.int .u8 (s.x:Nat),.int .u8 (s.y:Nat),.int .u8 (s.kind:Nat)]
def SpV(s:rJ):Value:= .agg #[.int .u8 (s.time:Nat),.int .u8 (s.x:Nat),.int .u8 (s.y:Nat),.int .u8 (s.kind:Nat)]
theorem jS:iV rJ jY 4:=⟨fun _=>rfl,fun x v hv=>List.all_eq_true.1 (show(jY x).all (·.oneCell')=true from rfl) v hv⟩
def YW(s:rJ):Prop:=s.time<256∧s.x<256∧s.y<256∧s.kind<256
def Gg(s:yS):List Value:=[.bool (decide ((s.t:Rat).num<0)),.string (bH (s.t:Rat).num.natAbs),.bool false,.string (dm (s.t:Rat)),.bool (decide ((s.x:Rat).num<0)),.string (bH (s.x:Rat).num.natAbs),.bool false,.string (dm (s.x:Rat)),.bool (decide ((s.y:Rat).num<0)),.string (bH (s.y:Rat).num.natAbs),.bool false,.string (dm (s.y:Rat))]
def SmV(s:yS):Value:= .agg #[.bool (decide ((s.t:Rat).num<0)),.string (bH (s.t:Rat).num.natAbs),.bool false,.string (dm (s.t:Rat)),.bool (decide ((s.x:Rat).num<0)),.string (bH (s.x:Rat).num.natAbs),.bool false,.string (dm (s.x:Rat)),.bool (decide ((s.y:Rat).num<0)),.string (bH (s.y:Rat).num.natAbs),.bool false,.string (dm (s.y:Rat))]
def iV.subP{α:Type}{c:α->List Value}{k:Nat}(h:iV α c k)(pre:List Value){l:List α}{i:Nat}{x:α}(hx:l[i]? =some x)(o n:Nat)(hn:o+n<=k):((pre++ah c l).drop (pre.length+(i*k+o))).take n=((c x).drop o).take n:=by
 rw[List.drop_length_add_append];exact h.sub hx o n hn
def yU(last:yS)(s:rJ):yS:=⟨last.t+1+(s.time%8:Nat),(s.x%64:Nat),(s.y%64:Nat)⟩
def swS(last:yS)(s:rJ):yS:=⟨last.t,(s.y%64:Nat),(s.x%64:Nat)⟩
def Dt(o:List PU)(alone:Bool)(f n:yS):PU:=⟨⟨rl (f.t:Rat),rl (n.t:Rat),!o.isEmpty&& !alone,false⟩,qeF f n⟩
def wZ(s:yS):PU:=⟨⟨rl (s.t:Rat),rl (s.t:Rat),false,false⟩,⟨(s.x:Rat),0,(s.y:Rat),0⟩⟩
theorem xe{α:Type}{l:List α}{i:Nat}{s:α}(hx:l[i]? =some s):l.drop i=s::l.drop (i+1):=by
 obtain⟨h1,h2⟩:=List.getElem?_eq_some_iff.1 hx;rw[<-h2,List.getElem_cons_drop]
section
variable{l:List rJ}{i:Nat}{s:rJ}{last:yS}{alone:Bool}{o:List PU}
theorem qcl(hx:l[i]? =some s)(hk:s.kind%8=0):iG (l.drop i) last alone o=iG (l.drop (i+1)) (yU last s) true o:=by
 rw[xe hx,iG];simp only[hk];rfl
theorem qcm(hx:l[i]? =some s)(hk:s.kind%8=1):iG (l.drop i) last alone o=iG (l.drop (i+1)) (yU last s) false (o++[Dt o alone (swS last s) (yU last s)]):=by
 rw[xe hx,iG];simp only[hk];rfl
theorem qcn(hx:l[i]? =some s)(h0:s.kind%8≠0)(hk:s.kind%8≠1):iG (l.drop i) last alone o=iG (l.drop (i+1)) (yU last s) false (o++[Dt o alone last (yU last s)]):=by
 rw[xe hx,iG];simp only[if_neg h0,if_neg hk,decide_eq_false h0];rfl
theorem Xa:iG (l.drop l.length) last alone o=if alone=true then o++[wZ last] else o:=by
 rw[List.drop_length,iG];rfl
end
structure Ip(s:yS)(n:Nat):Prop where
 t0:0<=s.t
 t1:s.t+8*n<=100
 x0:0<=s.x
 x1:s.x<=63
 y0:0<=s.y
 y1:s.y<=63
def Gh{a:yS}{s:rJ}{n:Nat}(h:Ip a (n+1)):Ip (yU a s) n:=by
 have h0:=h.t0;have h1:=h.t1;exact⟨by show 0<=a.t+1+_;omega,by show a.t+1+((s.time%8:Nat):Int)+8*n<=100;omega,by show(0:Int)<=((s.x%64:Nat):Int);omega,by show((s.x%64:Nat):Int)<=63;omega,by show(0:Int)<=((s.y%64:Nat):Int);omega,by show((s.y%64:Nat):Int)<=63;omega⟩
def qco{a:yS}{s:rJ}{n:Nat}(h:Ip a n):Ip (swS a s) n:=
 ⟨h.t0,h.t1,by show(0:Int)<=((s.y%64:Nat):Int);omega,by show((s.y%64:Nat):Int)<=63;omega,by show(0:Int)<=((s.x%64:Nat):Int);omega,by show((s.x%64:Nat):Int)<=63;omega⟩
theorem Ip.t{a:yS}{n:Nat}(h:Ip a n):bV (a.t:Rat)<=2:=mY (by have:=h.t0;omega) (by have:=h.t1;omega)
theorem Ip.x{a:yS}{n:Nat}(h:Ip a n):bV (a.x:Rat)<=2:=mY (by have:=h.x0;omega) (by have:=h.x1;omega)
theorem Ip.y{a:yS}{n:Nat}(h:Ip a n):bV (a.y:Rat)<=2:=mY (by have:=h.y0;omega) (by have:=h.y1;omega)
def qfy{a b:yS}{m n:Nat}(ha:Ip a m)(hb:Ip b n):ja (qeF a b)<=15:=by
 have dt:=AP hb.t ha.t;have dx:=AP hb.x ha.x;have dy:=AP hb.y ha.y;have sx:=D9 dx dt;have sy:=D9 dy dt;have qx:=AP ha.x (sO sx ha.t);have qy:=AP ha.y (sO sy ha.t);unfold ja qeF;dsimp only;omega
def Sm2(u:PU):Prop:=SmE 2 u.i.f∧SmE 2 u.i.t∧ja u.f<=15
def Xb{a:yS}{n:Nat}(h:Ip a n):SmE 2 (rl (a.t:Rat)):=⟨⟨_,rfl⟩,wS h.t (Nat.le_refl _)⟩
def Xc{o:List PU}{alone:Bool}{a b:yS}{m n:Nat}(ha:Ip a m)(hb:Ip b n):Sm2 (Dt o alone a b):=⟨Xb ha,Xb hb,qfy ha hb⟩
def YX{a:yS}{n:Nat}(h:Ip a n):Sm2 (wZ a):=⟨Xb h,Xb h,by
 have:=h.x;have:=h.y;have:=vX;show max (max (bV (a.x:Rat)) (bV 0)) (max (bV (a.y:Rat)) (bV 0))<=15;omega⟩
def yI{α:Type}{P:α->Prop}{o:List α}{x:α}(ho:∀u∈o,P u)(hx:P x):∀u∈o++[x],P u:=fun u hu=>by
 rcases List.mem_append.1 hu with h|h
 ·exact ho u h
 ·rw[List.mem_singleton] at h;exact h▸hx
def Du:∀{l:List rJ} {last:yS} {alone:Bool} {o:List PU},Ip last l.length->(∀u∈o,Sm2 u)->∀u∈iG l last alone o,Sm2 u
 |[],last,alone,o,h,ho=>by
  rw[iG]
  split
  ·exact yI ho (YX h)
  ·exact ho
 |s::l,last,alone,o,h,ho=>by
  by_cases h0:s.kind%8=0
  ·rw[show iG (s::l) last alone o=iG l (yU last s) true o from qcl (l:=s::l) (i:=0) rfl h0];exact Du (Gh h) ho
  ·by_cases h1:s.kind%8=1
   ·rw[show iG (s::l) last alone o=_ from qcm (l:=s::l) (i:=0) rfl h1];exact Du (l:=l) (Gh h) (yI ho (Xc (qco h) (Gh h)))
   ·rw[show iG (s::l) last alone o=_ from qcn (l:=s::l) (i:=0) rfl h0 h1];exact Du (l:=l) (Gh h) (yI ho (Xc h (Gh h)))
def Iq:∀{l:List rJ} {last:yS} {alone:Bool} {o:List PU},(alone=true∨0<o.length)->0<(iG l last alone o).length∧(iG l last alone o).length<=o.length+l.length+1
 |[],last,alone,o,h=>by
  rw[iG]
  split
  ·simp
  ·rename_i ha;exact⟨h.resolve_left ha,by simp⟩
 |s::l,last,alone,o,h=>by
  by_cases h0:s.kind%8=0
  ·rw[show iG (s::l) last alone o=iG l (yU last s) true o from qcl (l:=s::l) (i:=0) rfl h0];have:=Iq (l:=l) (last:=yU last s) (alone:=true) (o:=o) (.inl rfl);simp only[List.length_cons];omega
  ·by_cases h1:s.kind%8=1
   ·rw[show iG (s::l) last alone o=_ from qcm (l:=s::l) (i:=0) rfl h1];have:=Iq (l:=l) (last:=yU last s) (alone:=false) (o:=o++[Dt o alone (swS last s) (yU last s)]) (.inr (by simp));simp only[List.length_append,List.length_cons,List.length_nil] at this ⊢;rw[show List.drop (0+1) (s::l)=l from rfl];omega
   ·rw[show iG (s::l) last alone o=_ from qcn (l:=s::l) (i:=0) rfl h0 h1];have:=Iq (l:=l) (last:=yU last s) (alone:=false) (o:=o++[Dt o alone last (yU last s)]) (.inr (by simp));simp only[List.length_append,List.length_cons,List.length_nil] at this ⊢;rw[show List.drop (0+1) (s::l)=l from rfl];omega
def st0(t x y:Nat):yS:=⟨(t%16:Nat),(x%64:Nat),(y%64:Nat)⟩
def Ko{t x y n:Nat}(hn:n<=6):Ip (st0 t x y) n:=⟨by show(0:Int)<=((t%16:Nat):Int);omega,by show((t%16:Nat):Int)+8*n<=100;omega,by show(0:Int)<=((x%64:Nat):Int);omega,by show((x%64:Nat):Int)<=63;omega,by show(0:Int)<=((y%64:Nat):Int);omega,by show((y%64:Nat):Int)<=63;omega⟩
def Gi(t x y:Nat)(l:List rJ):List PU:=iG l (st0 t x y) true []
theorem xX{t x y:Nat}{l:List rJ}(h6:l.length<=6):jd t x y l=pU (Gi t x y l):=by
 unfold jd Gi;rw[List.take_of_length_le h6];rfl
section
variable{t x y:Nat}{l:List rJ}
def Gj(h6:l.length<=6):Go.Via.Ends (SmE 2) (Gi t x y l):=fun u hu=>by
 have h:=Du (l:=l) (Ko h6) (o:=[]) (by simp) u hu;exact⟨h.1,h.2.1⟩
def Kq{t x y:Nat}{l:List rJ}:pJ jk (Gi t x y l):=(Bv (l:=l) (last:=st0 t x y) (alone:=true) (out:=[]) ⟨List.Pairwise.nil,by simp⟩ (by simp[Go.Via.Ends]) (by simp)).1
def Kt(h6:l.length<=6):0<(Gi t x y l).length∧(Gi t x y l).length<=7:=by
 have:=Iq (l:=l) (last:=st0 t x y) (alone:=true) (o:=[]) (.inl rfl);unfold Gi;simp only[List.length_nil] at this;omega
def Xd(h6:l.length<=6):∀u∈Gi t x y l,jB u.i<=1000∧ja u.f<=1000:=fun u hu=>by
 have h:=Du (l:=l) (Ko h6) (o:=[]) (by simp) u hu;exact⟨wW (Nat.le_trans h.1.2 (by omega)) (Nat.le_trans h.2.1.2 (by omega)),Nat.le_trans h.2.2 (by omega)⟩
def SS{f:Ln}{t:Rl}(hf:ja f<=15)(ht:gz t<=2):ja (iU f t)<=100:=by
 have h3:=rD t;have a0:=qK f;have a1:=qL f;have a2:=qM f;have a3:=qO f;have z:=vX;have h1:bV (vT (qx f) t.p)<=50:=by
  have h:=wV (qx f) t.p;have e:bV (qx f).c2<=2:=z;have e0:bV (qx f).c0=bV f.x0:=rfl;have e1:bV (qx f).c1=bV f.x1:=rfl;omega
 have h2:bV (vT (qy f) t.p)<=50:=by
  have h:=wV (qy f) t.p;have e:bV (qy f).c2<=2:=z;have e0:bV (qy f).c0=bV f.y0:=rfl;have e1:bV (qy f).c1=bV f.y1:=rfl;omega
 unfold iU
 split
 ·show max (max (bV (vT (qx f) t.p)) (bV 0)) (max (bV (vT (qy f) t.p)) (bV 0))<=100;omega
 ·omega
def NW(h6:l.length<=6):Go.Via.Ends (SmE 2) (jd t x y l):=by
 rw[xX h6];exact(Nr (qbX 2) (Kq) (Gj h6)).2
def Ku(h6:l.length<=6):Fb (jd t x y l):=fun u hu=>by
 have he:=NW h6 u hu;refine⟨wW (Nat.le_trans he.1.2 (by omega)) (Nat.le_trans he.2.2 (by omega)),?_⟩;rw[xX h6] at hu;refine Ns (P:=fun f=>ja f<=100) (fun v hv=>?_) u hu;have h:=Du (l:=l) (Ko h6) (o:=[]) (by simp) v hv;exact⟨Nat.le_trans h.2.2 (by omega),SS h.2.2 h.1.2,SS h.2.2 h.2.1.2⟩
def Kv(h6:l.length<=6):(jd t x y l).length<=21:=by
 rw[xX h6];have:= @Nu (Gi t x y l);have:=(Kt (t:=t) (x:=x) (y:=y) h6).2;omega
end
def SV{t x y u v w:Nat}{l m:List rJ}:EW (jd t x y l) (jd u v w m):=⟨(EG t x y l).1,(EG u v w m).1,(EG t x y l).2,(EG u v w m).2⟩
def iV.neP{α:Type}{c:α->List Value}{k:Nat}(h:iV α c k)(hk:0<k)(pre:List Value){l:List α}(hl:0<l.length):pre++ah c l≠[]:=fun e=>h.ne hk hl (List.append_eq_nil_iff.1 e).2
def Xe{f a:yS}{s:rJ}(h:f.t=a.t):((yU a s).t:Rat)-(f.t:Rat)≠0:=fun e=>by
 have e1:((yU a s).t:Rat)=(f.t:Rat):=(by grind);have e2:=Rat.intCast_inj.1 e1;rw[h] at e2;have e3:a.t+1+((s.time%8:Nat):Int)=a.t:=e2;omega
def qfz{n:Nat}{a:yS}(h:Ip a n):(if-9223372036854775808<=(a.t:Rat).num∧(a.t:Rat).num<=9223372036854775807 then(a.t:Rat).num else 0)=a.t:=by
 have h0:=h.t0;have h1:=h.t1;rw[Rat.num_intCast,if_pos ⟨by omega,by omega⟩]
def qiy{last:yS}{s:rJ}{n:Nat}{f:yS}(h:Ip last n)(hf:f=if s.kind%8=1 then swS last s else last):Ip f n∧f.t=last.t:=by
 subst hf;split
 ·exact⟨qco h,rfl⟩
 ·exact⟨h,rfl⟩
def qkj{l:List rJ}{i:Nat}{s:rJ}{last f:yS}{alone:Bool}{o:List PU}(hx:l[i]? =some s)(h0:s.kind%8≠0)(hf:f=if s.kind%8=1 then swS last s else last):iG (l.drop i) last alone o=iG (l.drop (i+1)) (yU last s) false (o++[Dt o alone f (yU last s)]):=by
 subst hf
 by_cases h1:s.kind%8=1
 ·rw[if_pos h1];exact qcm hx h1
 ·rw[if_neg h1];exact qcn hx h0 h1
theorem qfA{o:List PU}{alone:Bool}{f n:yS}(h:o.isEmpty=false):(Dt o alone f n).i=⟨rl (f.t:Rat),rl (n.t:Rat),!alone,false⟩:=by unfold Dt;rw[h];rfl
theorem qfB{o:List PU}{alone:Bool}{f n:yS}(h:o.isEmpty=true):(Dt o alone f n).i=⟨rl (f.t:Rat),rl (n.t:Rat),false,false⟩:=by unfold Dt;rw[h];rfl
end Go.Via
namespace Go.Proofs.YtaffcpfhedadhaaGreatDoor
open Go Go.RowKit Go.Via Go.ChangeShapes Go.WideShapes
def U0{w w':World}(h:Below w.heap.size w w')(may:MemPlace->Prop):w.keptBut w' may:=by
 have hb:∀b,b<w.heap.size->w'.heap[b]? =w.heap[b]? :=h.block;refine⟨h.os,h.output,fun i hi=>?_⟩
 rw[hb i hi]
 split
 ·rename_i e1 e2
  rw[e1] at e2;cases e2;exact⟨rfl,rfl,rfl,fun _ _=>rfl⟩
 ·rename_i e1 e2
  rw[e1] at e2;cases e2;exact Or.inr ⟨rfl,rfl⟩
 ·rfl
def qcp{α:Type}(a0:α){n:Nat}{p:Nat->α->Prop}(h:∀i,i<n->∃x,p i x):∃f:Nat->α,∀i,i<n->p i (f i):=by
 classical
 refine⟨fun i=>if h':i<n then Classical.choose (h i h') else a0,fun i hi=>?_⟩
 show p i (if h':i<n then Classical.choose (h i h') else a0)
 rw[dif_pos hi];exact Classical.choose_spec (h i hi)
def qcq{w:World}{a:Addr}{cs:List Value}(e:TypeId)(he:e<cZ)(hne:cs≠[])(h:∀(j:Nat) (v:Value),cs[j]? =some v->w.cell? (a.add j)=some v):
 ∃(g:Nat) (pre:List Value) (N:Nat),a=⟨g,pre.length,none⟩∧qQ (Bs.of w) w ⟨some g,e,pre++cs,N,false⟩ g:=by
 obtain⟨c0,l,rfl⟩:=List.exists_cons_of_ne_nil hne;have h0:=h 0 c0 rfl;rw[show a.add 0=a by simp[Addr.add]] at h0;obtain⟨g,off,spot⟩:=a;have h0':=h0;unfold World.cell? at h0'
 split at h0'
 ·rename_i cur e0 fr heq
  split at h0'
  ·cases h0'
  ·rename_i hsp
   have hsn:spot=none:=by cases spot with|none=>rfl|some z=>simp at hsp
   subst hsn;have hoff:off<cur.size:=(Array.getElem?_eq_some_iff.1 h0').1;have hpl:(cur.toList.take off).length=off:=by simp;omega
   refine⟨g,cur.toList.take off,cur.size,by rw[hpl],?_⟩;refine⟨.inl ⟨cur,⟨e0,fr,heq,(fun h=>by cases h),he⟩,rfl,?_⟩,fun h=>by cases h⟩
   refine List.ext_getElem? fun j=>?_
   show(cur.toList.take (cur.toList.take off++c0::l).length)[j]? =_;rw[List.length_append,hpl]
   by_cases hj:j<off
   ·rw[List.getElem?_append_left (by rw[hpl];exact hj),List.getElem?_take,List.getElem?_take,if_pos (by omega),if_pos hj]
   ·rw[List.getElem?_append_right (by rw[hpl];omega),hpl,List.getElem?_take]
    split
    ·rename_i hj2
     obtain⟨v,hv⟩:∃v,(c0::l)[j-off]? =some v:=⟨_,List.getElem?_eq_getElem (by omega)⟩;have k2:=h _ _ hv;rw[ku] at k2;unfold World.cell? at k2;simp only[heq] at k2;rw[show off+(j-off)=j by omega] at k2;rw[hv,<-k2];simp
    ·rename_i hj2
     rw[List.getElem?_eq_none (by omega)]
 ·cases h0'
theorem SX{f:Nat->List Value}{k:Nat}:∀{n:Nat},(∀i,i<n->(f i).length=k)->((List.range n).flatMap f).length=n*k
 |0,_=>by simp
 |n+1,h=>by rw[List.range_succ,List.flatMap_append,List.length_append,SX (n:=n) (fun i hi=>h i (by omega))];simp[h n (by omega)];rw[Nat.succ_mul]
def U1{w:World}{a:Addr}{k n:Nat}{f:Nat->List Value}(hf:∀i,i<n->w.cells? 0 (a.add (i*k)) k=some (f i))(hk:∀i,i<n->(f i).length=k)(h0:0<k):
 ∀(j:Nat) (v:Value),((List.range n).flatMap f)[j]? =some v->w.cell? (a.add j)=some v:=by
 induction n with
 |zero=>intro j v h;simp at h
 |succ n ih=>
  intro j v h;rw[List.range_succ,List.flatMap_append] at h;have hl:=SX (f:=f) (k:=k) (n:=n) (fun i hi=>hk i (by omega))
  by_cases hj:j<n*k
  ·rw[List.getElem?_append_left (by rw[hl];exact hj)] at h;exact ih (fun i hi=>hf i (by omega)) (fun i hi=>hk i (by omega)) j v h
  ·rw[List.getElem?_append_right (by rw[hl];omega),hl] at h;simp only[List.flatMap_cons,List.flatMap_nil,List.append_nil] at h;have hjl:j-n*k<k:=by
    have:=(List.getElem?_eq_some_iff.1 h).1
    rwa [hk n (by omega)] at this
   obtain⟨_,_,hc⟩:=World.cells?_some (hf n (by omega));have:=hc (j-n*k) hjl;rw[h,Addr.add_add] at this;rw[<-this]
   congr 2
   omega
def qiz{W:World}{L:List aC}(ho:∀b∈L,b.own=false)(h:∀b∈L,(∀g,b.base=some g->qQ (Bs.of W) W b g)∧(b.base=none->b.cs=[]∧b.n=0∧∀T:KO,GL T=true->b.e=gE T->∀p∈T,sF W p)):aV (Bs.of W) L W:=by
 refine⟨lT.of (eG.refl _ _),fun k b hk=>?_,fun i j g bi bj hij hi hj hio=>?_,fun b hb hn T hT he p hp=>?_⟩
 ·have:=h b (List.mem_of_getElem? hk);exact⟨this.1,fun hn=>⟨(this.2 hn).1,(this.2 hn).2.1⟩⟩
 ·rw[ho bi (List.mem_of_getElem? hi)] at hio;cases hio
 ·refine⟨((h b hb).2 hn).2.2 T hT he p hp,fun hbo=>?_,fun c hc hco=>?_⟩
  ·rw[ho b hb] at hbo;cases hbo
  ·rw[ho c hc] at hco;cases hco
def qcr{p:Program}{fits:TypeId->Bool}{d e count off n:Nat}(h:rowAt p fits d e count off n=true):off<=count*p.cellsOf e:=by
 cases d with
 |zero=>cases h
 |succ d=>
  unfold rowAt at h;dsimp only at h
  split at h
  ·cases h
  ·rename_i hs
   have hd:=Nat.div_add_mod off (p.cellsOf e);have hlt:=Nat.mod_lt off (Nat.pos_of_ne_zero hs);rw[Bool.or_eq_true] at h;rcases h with h|h
   ·simp only[Bool.and_eq_true,beq_iff_eq,decide_eq_true_eq] at h;have:p.cellsOf e*(off/p.cellsOf e)<=p.cellsOf e*count:=Nat.mul_le_mul_left _ (by omega);rw[Nat.mul_comm count];omega
   ·rw[Bool.and_eq_true,decide_eq_true_eq] at h;have:p.cellsOf e*(off/p.cellsOf e+1)<=p.cellsOf e*count:=Nat.mul_le_mul_left _ (by omega);rw[Nat.mul_add,Nat.mul_one] at this;rw[Nat.mul_comm count];omega
def NY{p:Program}:∀{d e count off u n:Nat},liesAt p d e count off u n=true->off<=count*p.cellsOf e
 |0,_,_,_,_,_,h=>by cases h
 |d+1,e,count,off,u,n,h=>by
  unfold liesAt at h;rw[Bool.or_eq_true] at h;rcases h with h|h
  ·exact qcr h
  ·split at h
   ·exact NY h
   ·cases h
def qfC{W:World}{r:Reach}{base:Nat}{a:Addr}{e n:Nat}(h:W.has Tryz.prog r base a e n):∃(g:Nat) (pre:List Value) (N:Nat),a=⟨g,pre.length,none⟩∧qQ (Bs.of W) W ⟨some g,86,pre++[],N,false⟩ g:=by
 obtain⟨_,hsp,row,cells,hsh,hl⟩:=h;obtain⟨g,off,spot⟩:=a;simp only at hsp hsh hl;subst hsp;unfold World.shape? at hsh
 split at hsh
 ·rename_i cur elem fr heq
  cases hsh;have h1:=NY hl;have h2:off<=cur.size:=Nat.le_trans h1 (Nat.div_mul_le_self _ _);have hpl:(cur.toList.take off).length=off:=by simp;omega
  refine⟨g,cur.toList.take off,cur.size,by rw[hpl],.inl ⟨cur,⟨_,_,heq,(fun h=>by cases h),(show 86<cZ by decide)⟩,rfl,?_⟩,fun h=>by cases h⟩
  show cur.toList.take (cur.toList.take off++[]).length=cur.toList.take off++[];rw[List.append_nil,hpl]
 ·cases hsh
abbrev SY(W:World)(b:aC):Prop:=(∀g,b.base=some g->qQ (Bs.of W) W b g)∧(b.base=none->b.cs=[]∧b.n=0∧∀T:KO,GL T=true->b.e=gE T->∀p∈T,sF W p)
def qkk{W:World}:∀{L:List aC},List.foldr (fun b p=>(b.own=false∧SY W b)∧p) True L->aV (Bs.of W) L W:=fun {L} h=>by
 have key:∀L:List aC,List.foldr (fun b p=>(b.own=false∧SY W b)∧p) True L->∀b∈L,b.own=false∧SY W b:=by
  intro L
  induction L with
  |nil=>intro _ b hb;cases hb
  |cons a L ih=>
   intro h b hb;rcases List.mem_cons.1 hb with rfl|hb
   ·exact h.1
   ·exact ih h.2 b hb
 exact qiz (fun b hb=>(key L h b hb).1) (fun b hb=>(key L h b hb).2)
def PQ{W:World}{b:Option Nat}{e N:Nat}{cs:List Value}(he:e<cZ)(h1:∀g,b=some g->qQ (Bs.of W) W ⟨b,e,cs,N,false⟩ g)(h2:b=none->cs=[]∧N=0):SY W ⟨b,e,cs,N,false⟩:=
 ⟨h1,fun hn=>⟨(h2 hn).1,(h2 hn).2,fun T _ he'=>absurd (he'▸he) (Iu T)⟩⟩
section
variable{H:Type}{enc:TypeId×Value->H}{w:World}
theorem ce3:Tryz.prog.cellsOf 3=1:=by kernel_rfl
theorem ce5:Tryz.prog.cellsOf 5=1:=by kernel_rfl
theorem ql9:Tryz.prog.cellsOf 22=1:=by kernel_rfl
theorem qma:Tryz.prog.cellsOf 24=4:=by kernel_rfl
theorem qmb:Tryz.prog.cellsOf 26=9:=by kernel_rfl
theorem qmc:Tryz.prog.cellsOf 55=4:=by kernel_rfl
theorem qkl:Tryz.prog.cellsOf 86=4:=by kernel_rfl
abbrev Rd(w:World)(enc:TypeId×Value->H)(fuel t:Nat)(cs:List Value)(x:DataW H×List MemPlace):Prop:=DataW.trod enc Tryz.prog w 0 (fun _=>true) true fuel t cs=some x
def oU8{fuel:Nat}{c:Value}{x:DataW H×List MemPlace}(h:Rd w enc fuel 5 [c] x):∃m:Nat,m<256∧c= .int .u8 (m:Nat):=by
 obtain⟨n,e,_,hk⟩:=DataW.trod_int Tryz.underlying5 h;simp only[Lit.wf,Bool.and_eq_true,decide_eq_true_eq] at hk;have h1:0<=n:=hk.1;have h2:n<=255:=hk.2;refine⟨n.toNat,by omega,?_⟩;rw[Int.toNat_of_nonneg h1]
 simpa using e
def qkm{fuel:Nat}{c:Value}{x:DataW H×List MemPlace}(h:Rd w enc fuel 3 [c] x):∃n:Int,(-9223372036854775808<=n∧n<=9223372036854775807)∧c= .int .i64 n:=by
 obtain⟨n,e,_,hk⟩:=DataW.trod_int Tryz.underlying3 h;simp only[Lit.wf,Bool.and_eq_true,decide_eq_true_eq] at hk;exact⟨n,hk,by simpa using e⟩
def qmd{fuel:Nat}{cs:List Value}{x:DataW H×List MemPlace}(h:Rd w enc fuel 86 cs x):∃s:rJ,YW s∧cs=jY s:=by
 obtain⟨xs,n,_,rfl,hl,hlen,hf⟩:=DataW.trod_struct Tryz.underlying86 h;rw[qkl] at hl
 match cs,hl,xs,hlen with
 |[c0,c1,c2,c3],_,[y0,y1,y2,y3],_=>
  have f0:Rd w enc n 5 ((([c0,c1,c2,c3]:List Value).drop 0).take (Tryz.prog.cellsOf 5)) y0:=hf 0 _ rfl;have f1:Rd w enc n 5 ((([c0,c1,c2,c3]:List Value).drop 1).take (Tryz.prog.cellsOf 5)) y1:=hf 1 _ rfl;have f2:Rd w enc n 5 ((([c0,c1,c2,c3]:List Value).drop 2).take (Tryz.prog.cellsOf 5)) y2:=hf 2 _ rfl;have f3:Rd w enc n 5 ((([c0,c1,c2,c3]:List Value).drop 3).take (Tryz.prog.cellsOf 5)) y3:=hf 3 _ rfl;rw[ce5] at f0 f1 f2 f3;obtain⟨a,ha,rfl⟩:=oU8 f0;obtain⟨b,hb,rfl⟩:=oU8 f1;obtain⟨c,hc,rfl⟩:=oU8 f2;obtain⟨d,hd,rfl⟩:=oU8 f3;exact⟨⟨a,b,c,d⟩,⟨ha,hb,hc,hd⟩,rfl⟩
structure qfD(w:World)(l:List rJ)(b:Option Nat)(pre:List Value)(N cap:Nat):Prop where
 le:l.length<=cap
 ok:∀s∈l,YW s
 blk:SY w ⟨b,86,pre++ah jY l,N,false⟩
def qiA{r:Reach}{b0 fuel:Nat}{v:Value}{x:DataW H×List MemPlace}(hval:Cell.ok Tryz.prog w r b0 22 v)(h:Rd w enc fuel 22 [v] x):
 ∃(l:List rJ) (b:Option Nat) (pre:List Value) (N cap:Nat),v=az b pre.length l.length cap∧qfD w l b pre N cap:=by
 rcases DataW.trod_slice Tryz.underlying22 h with⟨h1,_⟩|⟨a,len,cap,elems,rest,m,hm,h1,h2,_,hlc,_,hel,hx,_,_⟩
 ·obtain rfl:v= .slice none 0 0:=by simpa using h1
  exact⟨[],none,[],0,0,rfl,Nat.le_refl _,by simp,PQ (by decide) (fun g hg=>by cases hg) fun _=>⟨rfl,rfl⟩⟩
 ·obtain rfl:v= .slice (some a) len cap:=by simpa using h1
  rw[qkl] at hx;obtain⟨F,hF⟩:=qcp (α:=rJ) ⟨0,0,0,0⟩ (n:=len) (p:=fun i s=>YW s∧w.cells? 0 (a.add (i*4)) 4=some (jY s)) (fun i hi=>by
 obtain⟨y,hy⟩:∃y,elems[i]? =some y:=⟨_,List.getElem?_eq_getElem (by omega)⟩;have hxi:=hx i hi;rw[hy] at hxi;obtain⟨row,r1,r2⟩:=Option.bind_eq_some_iff.1 hxi;obtain⟨s,hs,rfl⟩:=qmd r2;exact⟨s,hs,r1⟩)
  by_cases h0:len=0
  ·subst h0;unfold Cell.ok at hval;rw[Tryz.underlying22] at hval;obtain⟨g,pre,N,rfl,hB⟩:=qfC hval.2.2;exact⟨[],some g,pre,N,cap,rfl,Nat.zero_le _,by simp,PQ (by decide) (fun g' hg'=>by cases hg';exact hB) fun h=>by cases h⟩
  ·have hSB:ah jY ((List.range len).map F)=(List.range len).flatMap fun i=>jY (F i):=by
    unfold ah;rw[List.flatMap_map]
   have hlen:((List.range len).map F).length=len:=(by simp);have hne:ah jY ((List.range len).map F)≠[]:=fun e=>by
    have:=congrArg List.length e;rw[jS.length,hlen] at this;simp at this;omega
   obtain⟨g,pre,N,rfl,hB⟩:=qcq (w:=w) (a:=a) 86 (by decide) hne (by
 rw[hSB];exact U1 (k:=4) (fun i hi=>(hF i hi).2) (fun i hi=>rfl) (by decide))
   refine⟨(List.range len).map F,some g,pre,N,cap,by rw[hlen];rfl,by rw[hlen];exact hlc,fun s hs=>?_,PQ (by decide) (fun g' hg'=>by cases hg';exact hB) fun h=>by cases h⟩
   obtain⟨i,hi,rfl⟩:=List.mem_map.1 hs;exact(hF i (List.mem_range.1 hi)).1
def qkn{r:Reach}{b0 fuel:Nat}{c0 c1 c2 c3:Value}{x:DataW H×List MemPlace}(hval:Cell.ok Tryz.prog w r b0 22 c3)(h:Rd w enc fuel 24 [c0,c1,c2,c3] x):
 ∃(t x y:Nat) (l:List rJ) (b:Option Nat) (pre:List Value) (N cap:Nat),(t<256∧x<256∧y<256)∧[c0,c1,c2,c3]=[.int .u8 (t:Nat),.int .u8 (x:Nat),.int .u8 (y:Nat),az b pre.length l.length cap]∧qfD w l b pre N cap:=by
 obtain⟨xs,n,_,rfl,hl,hlen,hf⟩:=DataW.trod_struct Tryz.underlying24 h
 match xs,hlen with
 |[y0,y1,y2,y3],_=>
  have f0:Rd w enc n 5 ((([c0,c1,c2,c3]:List Value).drop 0).take (Tryz.prog.cellsOf 5)) y0:=hf 0 _ rfl;have f1:Rd w enc n 5 ((([c0,c1,c2,c3]:List Value).drop 1).take (Tryz.prog.cellsOf 5)) y1:=hf 1 _ rfl;have f2:Rd w enc n 5 ((([c0,c1,c2,c3]:List Value).drop 2).take (Tryz.prog.cellsOf 5)) y2:=hf 2 _ rfl;have f3:Rd w enc n 22 ((([c0,c1,c2,c3]:List Value).drop 3).take (Tryz.prog.cellsOf 22)) y3:=hf 3 _ rfl;rw[ce5] at f0 f1 f2;rw[ql9] at f3;obtain⟨a,ha,rfl⟩:=oU8 f0;obtain⟨b,hb,rfl⟩:=oU8 f1;obtain⟨c,hc,rfl⟩:=oU8 f2;obtain⟨l,bb,pre,N,cap,rfl,hs⟩:=qiA hval f3;exact⟨a,b,c,l,bb,pre,N,cap,⟨ha,hb,hc⟩,rfl,hs⟩
def qfE{r:Reach}{b0:Nat}{v:Value}{d:DataW H}{ps:List MemPlace}(hval:Value.okWide Tryz.prog w r b0 26 v)(hd:DataW.Trod enc Tryz.prog w 0 (fun _=>true) true 26 v d ps):
 ∃(ta xa ya tb xb yb ch:Nat) (a b:List rJ) (ab:Option Nat) (pa:List Value) (aN ac:Nat) (bb:Option Nat) (pb:List Value) (bN bc:Nat),(ta<256∧xa<256∧ya<256∧tb<256∧xb<256∧yb<256∧ch<256)∧
  v= .agg #[.int .u8 (ta:Nat),.int .u8 (xa:Nat),.int .u8 (ya:Nat),az ab pa.length a.length ac,.int .u8 (tb:Nat),.int .u8 (xb:Nat),.int .u8 (yb:Nat),az bb pb.length b.length bc,.int .u8 (ch:Nat)]∧qfD w a ab pa aN ac∧qfD w b bb pb bN bc:=by
 obtain⟨cs,rfl,hcs⟩:=okWide_struct Tryz.underlying26 hval;obtain⟨fuel,hf⟩:=hd;have hrow:Row.okWide Tryz.prog w r b0 26 cs:=by
  unfold Value.okWide at hval;rw[Tryz.underlying26] at hval;obtain⟨cs',e,_,h⟩:=hval;cases e;exact h
 obtain⟨ts,hts,_,hall⟩:=hrow;obtain rfl:ts=[5,5,5,22,5,5,5,22,5]:=Option.some.inj (hts.symm.trans (show Tryz.prog.cellTypes Tryz.prog.depth 26=some [5,5,5,22,5,5,5,22,5] by kernel_rfl));obtain⟨xs,n,hn,hx,hl,hlen,hf⟩:=DataW.trod_struct Tryz.underlying26 hf;rw[qmb] at hl;obtain⟨cl⟩:=cs
 match cl,hl,xs,hlen with
 |[c0,c1,c2,c3,c4,c5,c6,c7,c8],_,[y0,y1,y2],_=>
  have f0:Rd w enc n 24 ((([c0,c1,c2,c3,c4,c5,c6,c7,c8]:List Value).drop 0).take (Tryz.prog.cellsOf 24)) y0:=hf 0 _ rfl;have f1:Rd w enc n 24 ((([c0,c1,c2,c3,c4,c5,c6,c7,c8]:List Value).drop 4).take (Tryz.prog.cellsOf 24)) y1:=hf 1 _ rfl;have f2:Rd w enc n 5 ((([c0,c1,c2,c3,c4,c5,c6,c7,c8]:List Value).drop 8).take (Tryz.prog.cellsOf 5)) y2:=hf 2 _ rfl;rw[qma] at f0 f1;rw[ce5] at f2;obtain⟨u3,hu3,hok3⟩:=hall 3 c3 rfl;obtain rfl:u3=22:=(by simpa using hu3.symm);obtain⟨u7,hu7,hok7⟩:=hall 7 c7 rfl;obtain rfl:u7=22:=(by simpa using hu7.symm);have ok:∀c,Cell.okWide Tryz.prog w r b0 22 c->Cell.ok Tryz.prog w r b0 22 c:=fun c hok=>by
   unfold Cell.okWide at hok;rw[Tryz.underlying22] at hok;exact hok
  obtain⟨ta,xa,ya,a,ab,pa,aN,ac,⟨h1,h2,h3⟩,e1,sa⟩:=qkn (ok c3 hok3) f0;obtain⟨tb,xb,yb,b,bb,pb,bN,bc,⟨h4,h5,h6⟩,e2,sb⟩:=qkn (ok c7 hok7) f1;obtain⟨ch,h7,rfl⟩:=oU8 f2;simp only[List.cons.injEq,and_true] at e1 e2;obtain⟨rfl,rfl,rfl,rfl⟩:=e1;obtain⟨rfl,rfl,rfl,rfl⟩:=e2;exact⟨ta,xa,ya,tb,xb,yb,ch,a,b,ab,pa,aN,ac,bb,pb,bN,bc,⟨h1,h2,h3,h4,h5,h6,h7⟩,rfl,sa,sb⟩
def qfF{r:Reach}{b0:Nat}{v:Value}{d:DataW H}{ps:List MemPlace}(hval:Value.okWide Tryz.prog w r b0 55 v)(hd:DataW.Trod enc Tryz.prog w 0 (fun _=>true) true 55 v d ps):
 ∃(n e:Int) (up dn:Nat),((-9223372036854775808<=n∧n<=9223372036854775807)∧(-9223372036854775808<=e∧e<=9223372036854775807)∧up<256∧dn<256)∧v= .agg #[.int .i64 n,.int .i64 e,.int .u8 (up:Nat),.int .u8 (dn:Nat)]:=by
 obtain⟨cs,rfl,hcs⟩:=okWide_struct Tryz.underlying55 hval;obtain⟨fuel,hf⟩:=hd;obtain⟨xs,n,hn,hx,hl,hlen,hf⟩:=DataW.trod_struct Tryz.underlying55 hf;rw[qmc] at hl;obtain⟨cl⟩:=cs
 match cl,hl,xs,hlen with
 |[c0,c1,c2,c3],_,[y0,y1,y2,y3],_=>
  have f0:Rd w enc n 3 ((([c0,c1,c2,c3]:List Value).drop 0).take (Tryz.prog.cellsOf 3)) y0:=hf 0 _ rfl;have f1:Rd w enc n 3 ((([c0,c1,c2,c3]:List Value).drop 1).take (Tryz.prog.cellsOf 3)) y1:=hf 1 _ rfl;have f2:Rd w enc n 5 ((([c0,c1,c2,c3]:List Value).drop 2).take (Tryz.prog.cellsOf 5)) y2:=hf 2 _ rfl;have f3:Rd w enc n 5 ((([c0,c1,c2,c3]:List Value).drop 3).take (Tryz.prog.cellsOf 5)) y3:=hf 3 _ rfl;rw[ce3] at f0 f1;rw[ce5] at f2 f3;obtain⟨a,ha,rfl⟩:=qkm f0;obtain⟨b,hb,rfl⟩:=qkm f1;obtain⟨c,hc,rfl⟩:=oU8 f2;obtain⟨d,hd,rfl⟩:=oU8 f3;exact⟨a,b,c,d,⟨ha,hb,hc,hd⟩,rfl⟩
end
end Go.Proofs.YtaffcpfhedadhaaGreatDoor
namespace Go.Proofs.YtaffcpfhedadhaaGreatDoor
open Go.ChangeShapes Go.WideShapes Go.ChangeAt Go.RowKit
def own:ownKnob Tryz.prog.godebug=none:=by kernel_rfl
noncomputable def Gl(os:Os):World:=
 let w0:=World.holding Tryz.prog os ⟨#[],#[],[]⟩
 {w0 with heap:=(w0.heap.modify 2 fun
 | .cells _ t frozen=> .cells (List.map (Value.int .u8) ([128,191,160,191,128,159,144,191,128,143]++List.replicate 22 0)).toArray t frozen
 |o=>o).modify 1 fun
 | .cells _ t frozen=> .cells (List.map (fun(z:Nat)=>Value.int .u8 z) Go.Pinned.utf8FirstZ).toArray t frozen
 |o=>o}
set_option maxRecDepth 100000 in
def qcs(os:Os)(args:Array Value):laidMet Tryz.prog [("unicode/utf8.acceptRanges",Rows.laid_unicode_utf8_acceptRanges),("unicode/utf8.first",Rows.laid_unicode_utf8_first)] ((Gl os).forCall (fun _ _=>0) ⟨#[],args,[]⟩).memory:=
 laidMet_of_run' 8 (by kernel_rfl) (by kernel_rfl)
end Go.Proofs.YtaffcpfhedadhaaGreatDoor
