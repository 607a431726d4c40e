/-
  Part 35 (chapter 32): lemmas, walks. Each theorem states its own conditions.
-/
import Derived.Shelf.SlSortCmp.WholeK
import Derived.Shelf.SlSortCmp.NoneTotal
import Derived.Lib.Repeat
import Derived.Sort.Grow
import Derived.Sort.EncStr
import Derived.Lib.SliceRun
import Derived.Test.YtaffcpfhedadhaaGreatDoorA33
import Derived.Test.YtaffcpfhedadhaaGreatDoorA34
set_option linter.all false
set_option maxRecDepth 20000
set_option maxHeartbeats 20000000
section
variable{P Q:Prop}{T:Type}{R:T->Prop}
def qgt(h:P:=by show(0:Int)<=((s.x%64:Nat):Int);omega):=h
def qgu(h:P:=by show(0:Int)<=((s.y%64:Nat):Int);omega):=h
def XP(h:P:=by have e:=of_decide_eq_false haQ;omega):=h
end
namespace Go.Via
open Go
def kF(s:sJ):List Value:=[.int .u8 (s.time:Nat),.int .u8 (s.x:Nat),.int .u8 (s.y:Nat),.int .u8 (s.kind:Nat)]
def SpV(s:sJ):Value:= .agg #[.int .u8 (s.time:Nat),.int .u8 (s.x:Nat),.int .u8 (s.y:Nat),.int .u8 (s.kind:Nat)]
theorem lW:jb sJ kF 4:=⟨fun _=>rfl,fun x v hv=>List.all_eq_true.1 (show(kF x).all (·.oneCell')=true from rfl) v hv⟩
def okS(s:sJ):Prop:=s.time<256∧s.x<256∧s.y<256∧s.kind<256
def Hz(s:zL):List Value:=[.bool (decide ((s.t:Rat).num<0)),.string (bP (s.t:Rat).num.natAbs),.bool false,.string (dm (s.t:Rat)),.bool (decide ((s.x:Rat).num<0)),.string (bP (s.x:Rat).num.natAbs),.bool false,.string (dm (s.x:Rat)),.bool (decide ((s.y:Rat).num<0)),.string (bP (s.y:Rat).num.natAbs),.bool false,.string (dm (s.y:Rat))]
def SmV(s:zL):Value:= .agg #[.bool (decide ((s.t:Rat).num<0)),.string (bP (s.t:Rat).num.natAbs),.bool false,.string (dm (s.t:Rat)),.bool (decide ((s.x:Rat).num<0)),.string (bP (s.x:Rat).num.natAbs),.bool false,.string (dm (s.x:Rat)),.bool (decide ((s.y:Rat).num<0)),.string (bP (s.y:Rat).num.natAbs),.bool false,.string (dm (s.y:Rat))]
def jb.subP{α:Type}{c:α->List Value}{k:Nat}(h:jb α c k)(pre:List Value){l:List α}{i:Nat}{x:α}(hx:l[i]? =some x)(o n:Nat)(hn:o+n<=k):((pre++ai c l).drop (pre.length+(i*k+o))).take n=((c x).drop o).take n:=by
 rw[List.drop_length_add_append];exact h.sub hx o n hn
def zM(last:zL)(s:sJ):zL:=⟨last.t+1+(s.time%8:Nat),(s.x%64:Nat),(s.y%64:Nat)⟩
def swS(last:zL)(s:sJ):zL:=⟨last.t,(s.y%64:Nat),(s.x%64:Nat)⟩
def Eo(o:List PU)(alone:Bool)(f n:zL):PU:=⟨⟨rl (f.t:Rat),rl (n.t:Rat),!o.isEmpty&& !alone,false⟩,qje f n⟩
def xE(s:zL):PU:=⟨⟨rl (s.t:Rat),rl (s.t:Rat),false,false⟩,⟨(s.x:Rat),0,(s.y:Rat),0⟩⟩
theorem xG{α:Type}{l:List α}{i:Nat}{s:α}(hx:l[i]? =some s):l.drop i=s::l.drop (i+1):=by
 obtain⟨h1,h2⟩:=List.getElem?_eq_some_iff.1 hx;rw[<-h2,List.getElem_cons_drop]
section
variable{l:List sJ}{i:Nat}{s:sJ}{last:zL}{alone:Bool}{o:List PU}
theorem qgv(hx:l[i]? =some s)(hk:s.kind%8=0):iJ (l.drop i) last alone o=iJ (l.drop (i+1)) (zM last s) true o:=by
 rw[xG hx,iJ];simp only[hk];rfl
theorem qgw(hx:l[i]? =some s)(hk:s.kind%8=1):iJ (l.drop i) last alone o=iJ (l.drop (i+1)) (zM last s) false (o++[Eo o alone (swS last s) (zM last s)]):=by
 rw[xG hx,iJ];simp only[hk];rfl
theorem qgx(hx:l[i]? =some s)(h0:s.kind%8≠0)(hk:s.kind%8≠1):iJ (l.drop i) last alone o=iJ (l.drop (i+1)) (zM last s) false (o++[Eo o alone last (zM last s)]):=by
 rw[xG hx,iJ];simp only[if_neg h0,if_neg hk,decide_eq_false h0];rfl
theorem qae:iJ (l.drop l.length) last alone o=if alone=true then o++[xE last] else o:=by
 rw[List.drop_length,iJ];rfl
end
structure JC(s:zL)(n:Nat):Prop where
 t0:0<=s.t
 t1:s.t+8*n<=100
 x0:0<=s.x
 x1:s.x<=63
 y0:0<=s.y
 y1:s.y<=63
def HY{a:zL}{s:sJ}{n:Nat}(h:JC a (n+1)):JC (zM a s) n:=by
 have h0:=h.t0;have h1:=h.t1;exact⟨by show 0<=a.t+1+_;omega,by show a.t+1+((s.time%8:Nat):Int)+8*n<=100;omega,qgt,by show((s.x%64:Nat):Int)<=63;omega,qgu,by show((s.y%64:Nat):Int)<=63;omega⟩
def qgy{a:zL}{s:sJ}{n:Nat}(h:JC a n):JC (swS a s) n:=
 ⟨h.t0,h.t1,qgu,by show((s.y%64:Nat):Int)<=63;omega,qgt,by show((s.x%64:Nat):Int)<=63;omega⟩
theorem JC.t{a:zL}{n:Nat}(h:JC a n):cO (a.t:Rat)<=2:=nU (by have:=h.t0;omega) (by have:=h.t1;omega)
theorem JC.x{a:zL}{n:Nat}(h:JC a n):cO (a.x:Rat)<=2:=nU (by have:=h.x0;omega) (by have:=h.x1;omega)
theorem JC.y{a:zL}{n:Nat}(h:JC a n):cO (a.y:Rat)<=2:=nU (by have:=h.y0;omega) (by have:=h.y1;omega)
def qjW{a b:zL}{m n:Nat}(ha:JC a m)(hb:JC b n):jP (qje a b)<=15:=by
 have dt:=BO hb.t ha.t;have dx:=BO hb.x ha.x;have dy:=BO hb.y ha.y;have sx:=EP dx dt;have sy:=EP dy dt;have qx:=BO ha.x (wo sx ha.t);have qy:=BO ha.y (wo sy ha.t);unfold jP qje;dsimp only;omega
def Sm2(u:PU):Prop:=SmE 2 u.i.f∧SmE 2 u.i.t∧jP u.f<=15
def qaf{a:zL}{n:Nat}(h:JC a n):SmE 2 (rl (a.t:Rat)):=⟨⟨_,rfl⟩,Em h.t (Nat.le_refl _)⟩
def qag{o:List PU}{alone:Bool}{a b:zL}{m n:Nat}(ha:JC a m)(hb:JC b n):Sm2 (Eo o alone a b):=⟨qaf ha,qaf hb,qjW ha hb⟩
def qb9{a:zL}{n:Nat}(h:JC a n):Sm2 (xE a):=⟨qaf h,qaf h,by
 have:=h.x;have:=h.y;have:=zo;show max (max (cO (a.x:Rat)) (cO 0)) (max (cO (a.y:Rat)) (cO 0))<=15;omega⟩
def y7{α:Type}{P:α->Prop}{o:List α}{x:α}(ho:∀u∈o,P u)(hx:P x):∀u∈o++[x],P u:=fun u hu=>by
 rcases List.mem_append.1 hu with h|h
 ·exact ho u h
 ·rw[List.mem_singleton] at h;exact h▸hx
def Ep:∀{l:List sJ} {last:zL} {alone:Bool} {o:List PU},JC last l.length->(∀u∈o,Sm2 u)->∀u∈iJ l last alone o,Sm2 u
 |[],last,alone,o,h,ho=>by
  rw[iJ]
  split
  ·exact y7 ho (qb9 h)
  ·exact ho
 |s::l,last,alone,o,h,ho=>by
  by_cases h0:s.kind%8=0
  ·rw[show iJ (s::l) last alone o=iJ l (zM last s) true o from qgv (l:=s::l) (i:=0) rfl h0];exact Ep (HY h) ho
  ·by_cases h1:s.kind%8=1
   ·rw[show iJ (s::l) last alone o=_ from qgw (l:=s::l) (i:=0) rfl h1];exact Ep (l:=l) (HY h) (y7 ho (qag (qgy h) (HY h)))
   ·rw[show iJ (s::l) last alone o=_ from qgx (l:=s::l) (i:=0) rfl h0 h1];exact Ep (l:=l) (HY h) (y7 ho (qag h (HY h)))
def JD:∀{l:List sJ} {last:zL} {alone:Bool} {o:List PU},(alone=true∨0<o.length)->0<(iJ l last alone o).length∧(iJ l last alone o).length<=o.length+l.length+1
 |[],last,alone,o,h=>by
  rw[iJ]
  split
  ·simp
  ·rename_i ha;exact⟨h.resolve_left ha,bI⟩
 |s::l,last,alone,o,h=>by
  by_cases h0:s.kind%8=0
  ·rw[show iJ (s::l) last alone o=iJ l (zM last s) true o from qgv (l:=s::l) (i:=0) rfl h0];have:=JD (l:=l) (last:=zM last s) (alone:=true) (o:=o) (.inl rfl);simp only[List.length_cons];omega
  ·by_cases h1:s.kind%8=1
   ·rw[show iJ (s::l) last alone o=_ from qgw (l:=s::l) (i:=0) rfl h1];have:=JD (l:=l) (last:=zM last s) (alone:=false) (o:=o++[Eo o alone (swS last s) (zM last s)]) (.inr bI);simp only[List.length_append,List.length_cons,List.length_nil] at this ⊢;rw[show List.drop (0+1) (s::l)=l from rfl];omega
   ·rw[show iJ (s::l) last alone o=_ from qgx (l:=s::l) (i:=0) rfl h0 h1];have:=JD (l:=l) (last:=zM last s) (alone:=false) (o:=o++[Eo o alone last (zM last s)]) (.inr bI);simp only[List.length_append,List.length_cons,List.length_nil] at this ⊢;rw[show List.drop (0+1) (s::l)=l from rfl];omega
def st0(t x y:Nat):zL:=⟨(t%16:Nat),(x%64:Nat),(y%64:Nat)⟩
def Nb{t x y n:Nat}(hn:n<=6):JC (st0 t x y) n:=⟨by show(0:Int)<=((t%16:Nat):Int);omega,by show((t%16:Nat):Int)+8*n<=100;omega,by show(0:Int)<=((x%64:Nat):Int);omega,by show((x%64:Nat):Int)<=63;omega,by show(0:Int)<=((y%64:Nat):Int);omega,by show((y%64:Nat):Int)<=63;omega⟩
def H5(t x y:Nat)(l:List sJ):List PU:=iJ l (st0 t x y) true []
theorem yw{t x y:Nat}{l:List sJ}(h6:l.length<=6):jF t x y l=qC (H5 t x y l):=by
 unfold jF H5;rw[List.take_of_length_le h6];rfl
section
variable{t x y:Nat}{l:List sJ}
def H6(h6:l.length<=6):Go.Via.Ends (SmE 2) (H5 t x y l):=fun u hu=>by
 have h:=Ep (l:=l) (Nb h6) (o:=[]) bI u hu;exact⟨h.1,h.2.1⟩
def Nc{t x y:Nat}{l:List sJ}:pV gG (H5 t x y l):=(Cj (l:=l) (last:=st0 t x y) (alone:=true) (out:=[]) ⟨List.Pairwise.nil,bI⟩ (by simp[Go.Via.Ends]) bI).1
def Nh(h6:l.length<=6):0<(H5 t x y l).length∧(H5 t x y l).length<=7:=by
 have:=JD (l:=l) (last:=st0 t x y) (alone:=true) (o:=[]) (.inl rfl);unfold H5;simp only[List.length_nil] at this;omega
def qah(h6:l.length<=6):∀u∈H5 t x y l,jH u.i<=1000∧jP u.f<=1000:=fun u hu=>by
 have h:=Ep (l:=l) (Nb h6) (o:=[]) bI u hu;exact⟨xA (Nat.le_trans h.1.2 ae) (Nat.le_trans h.2.1.2 ae),Nat.le_trans h.2.2 ae⟩
def Vx{f:Ln}{t:Rl}(hf:jP f<=15)(ht:gJ t<=2):jP (jK f t)<=100:=by
 have h3:=sF t;have a0:=rD f;have a1:=rE f;have a2:=rF f;have a3:=rG f;have z:=zo;have h1:cO (uI (qx f) t.p)<=50:=by
  have h:=xy (qx f) t.p;have e:cO (qx f).c2<=2:=z;have e0:cO (qx f).c0=cO f.x0:=rfl;have e1:cO (qx f).c1=cO f.x1:=rfl;omega
 have h2:cO (uI (qy f) t.p)<=50:=by
  have h:=xy (qy f) t.p;have e:cO (qy f).c2<=2:=z;have e0:cO (qy f).c0=cO f.y0:=rfl;have e1:cO (qy f).c1=cO f.y1:=rfl;omega
 unfold jK
 split
 ·show max (max (cO (uI (qx f) t.p)) (cO 0)) (max (cO (uI (qy f) t.p)) (cO 0))<=100;omega
 ·omega
def PZ(h6:l.length<=6):Go.Via.Ends (SmE 2) (jF t x y l):=by
 rw[yw h6];exact(Ph (qfP 2) (Nc) (H6 h6)).2
def Nj(h6:l.length<=6):DC (jF t x y l):=fun u hu=>by
 have he:=PZ h6 u hu;refine⟨xA (Nat.le_trans he.1.2 ae) (Nat.le_trans he.2.2 ae),?_⟩;rw[yw h6] at hu;refine Pi (P:=fun f=>jP f<=100) (fun v hv=>?_) u hu;have h:=Ep (l:=l) (Nb h6) (o:=[]) bI v hv;exact⟨Nat.le_trans h.2.2 ae,Vx h.2.2 h.1.2,Vx h.2.2 h.2.1.2⟩
def Nk(h6:l.length<=6):(jF t x y l).length<=21:=by
 rw[yw h6];have:= @Pj (H5 t x y l);have:=(Nh (t:=t) (x:=x) (y:=y) h6).2;omega
end
def Vy{t x y u v w:Nat}{l m:List sJ}:CW (jF t x y l) (jF u v w m):=⟨(FP t x y l).1,(FP u v w m).1,(FP t x y l).2,(FP u v w m).2⟩
def jb.neP{α:Type}{c:α->List Value}{k:Nat}(h:jb α c k)(hk:0<k)(pre:List Value){l:List α}(hl:0<l.length):pre++ai c l≠[]:=fun e=>h.ne hk hl (List.append_eq_nil_iff.1 e).2
def qai{f a:zL}{s:sJ}(h:f.t=a.t):((zM a s).t:Rat)-(f.t:Rat)≠0:=fun e=>by
 have e1:((zM a s).t:Rat)=(f.t:Rat):=kN;have e2:=Rat.intCast_inj.1 e1;rw[h] at e2;have e3:a.t+1+((s.time%8:Nat):Int)=a.t:=e2;omega
def qjX{n:Nat}{a:zL}(h:JC a n):(if-9223372036854775808<=(a.t:Rat).num∧(a.t:Rat).num<=9223372036854775807 then(a.t:Rat).num else 0)=a.t:=by
 have h0:=h.t0;have h1:=h.t1;rw[Rat.num_intCast,if_pos ⟨ae,ae⟩]
def qnT{last:zL}{s:sJ}{n:Nat}{f:zL}(h:JC last n)(hf:f=if s.kind%8=1 then swS last s else last):JC f n∧f.t=last.t:=by
 subst hf;split
 ·exact⟨qgy h,rfl⟩
 ·exact⟨h,rfl⟩
def qpN{l:List sJ}{i:Nat}{s:sJ}{last f:zL}{alone:Bool}{o:List PU}(hx:l[i]? =some s)(h0:s.kind%8≠0)(hf:f=if s.kind%8=1 then swS last s else last):iJ (l.drop i) last alone o=iJ (l.drop (i+1)) (zM last s) false (o++[Eo o alone f (zM last s)]):=by
 subst hf
 by_cases h1:s.kind%8=1
 ·rw[if_pos h1];exact qgw hx h1
 ·rw[if_neg h1];exact qgx hx h0 h1
theorem qjY{o:List PU}{alone:Bool}{f n:zL}(h:o.isEmpty=false):(Eo o alone f n).i=⟨rl (f.t:Rat),rl (n.t:Rat),!alone,false⟩:=by unfold Eo;rw[h];rfl
theorem qjZ{o:List PU}{alone:Bool}{f n:zL}(h:o.isEmpty=true):(Eo o alone f n).i=⟨rl (f.t:Rat),rl (n.t:Rat),false,false⟩:=by unfold Eo;rw[h];rfl
end Go.Via
namespace Go.Proofs.YtaffcpfhedadhaaGreatDoor
open Go Go.RowKit Go.Via
def Oc(ta xa ya tb xb yb ch:Nat)(a b:List sJ)(ab bb:Option Nat)(pa pb:List Value)(ac bc:Nat):aP Tryz.prog 12 #[.agg #[.int .u8 (ta:Nat),.int .u8 (xa:Nat),.int .u8 (ya:Nat),ay ab pa.length a.length ac,.int .u8 (tb:Nat),.int .u8 (xb:Nat),.int .u8 (yb:Nat),ay bb pb.length b.length bc,.int .u8 (ch:Nat)]] (.bool (decide (a.length<=6)&&decide (b.length<=6))):=by
 refine xI 15 Tryz.func12 fun w=>?_;refine A2 ?_;refine Bp 9 (fun g0=>?_);refine oJ ?_;refine Rs 8 ?_ ?_<;>intro haQ
 ·have hs1:a.length<=6:=by have e:=of_decide_eq_true haQ;omega
  refine lD ?_;refine E0 ?_;exact congrArg (fun z=>Ending.returned (.bool z)) (by rw[decide_eq_true hs1,Bool.true_and];exact decide_eq_decide.2 ae)
 ·have hs1:¬a.length<=6:=XP
  refine lD ?_;refine E0 ?_;exact congrArg (fun z=>Ending.returned (.bool z)) (by rw[decide_eq_false hs1];rfl)
end Go.Proofs.YtaffcpfhedadhaaGreatDoor
namespace Go.Via
open Go
def rH(n:Int):Rat.divInt n 1=(n:Rat):=by have h:=Rat.num_divInt_den (n:Rat);rw[Rat.num_intCast,Rat.den_intCast] at h;exact h
def qaj(t:Rl)(a b:Bool):fV ⟨rl 0,t,a,b⟩= .agg #[aZ,bf,aZ,bf,aZ,bf,aZ,bf,.bool false,.bool (decide (t.p.num<0)),.string (bP t.p.num.natAbs),.bool false,.string (dm t.p),.bool (decide (t.r.num<0)),.string (bP t.r.num.natAbs),.bool false,.string (dm t.r),.bool t.n,.bool a,.bool b]:=by
 unfold fV rl;simp only[Ve,dm0,Vf]
def qnU(q:Rat):yV ⟨0,q,0,0⟩= .agg #[aZ,bf,aZ,bf,.bool (decide (q.num<0)),.string (bP q.num.natAbs),.bool false,.string (dm q),aZ,bf,aZ,bf,aZ,bf,aZ,bf]:=by
 unfold yV;simp only[Ve,dm0,Vf]
def qnV(q:Rat):yV ⟨0,0,q,0⟩= .agg #[aZ,bf,aZ,bf,aZ,bf,aZ,bf,.bool (decide (q.num<0)),.string (bP q.num.natAbs),.bool false,.string (dm q),aZ,bf,aZ,bf]:=by
 unfold yV;simp only[Ve,dm0,Vf]
def qpO(p q r:Rat):yV ⟨p,q,r,0⟩= .agg #[.bool (decide (p.num<0)),.string (bP p.num.natAbs),.bool false,.string (dm p),.bool (decide (q.num<0)),.string (bP q.num.natAbs),.bool false,.string (dm q),.bool (decide (r.num<0)),.string (bP r.num.natAbs),.bool false,.string (dm r),aZ,bf,aZ,bf]:=by
 unfold yV;simp only[Ve,dm0,Vf]
def rz(n:Int):Rl:=rl (n:Rat)
def qpP{n:Int}(h1: -255<=n)(h2:n<=255):gJ (rz n)<=2:=Em (nU h1 h2) (Nat.le_refl _)
def eA1:PU:=⟨⟨rl 0,rz 4,false,false⟩,⟨0,((1:Int):Rat),0,0⟩⟩
def eB1:PU:=⟨⟨rl 0,rz 2,false,false⟩,⟨0,0,((3:Int):Rat),0⟩⟩
def eB2:PU:=⟨⟨rz 2,rz 4,true,false⟩,⟨((-4:Int):Rat),((2:Int):Rat),((3:Int):Rat),0⟩⟩
end Go.Via
namespace Go.Via
open Go
theorem qnW(x:Rl):(((x.p.den:Int)*(x.p.den:Int))*(x.r.num*(x.r.den:Int))).natAbs=(x.p.den*x.p.den)*(x.r.num.natAbs*x.r.den):=by
 rw[Int.natAbs_mul,Int.natAbs_mul,Int.natAbs_mul];rfl
def qnX{x:Rl}(h:0<=x.r):¬((x.p.den:Int)*(x.p.den:Int))*(x.r.num*(x.r.den:Int))<0:=by
 have h1:0<=x.r.num:=Rat.num_nonneg.2 h;have h2:0<=((x.p.den:Int)*(x.p.den:Int))*(x.r.num*(x.r.den:Int)):=Int.mul_nonneg (Int.mul_nonneg (Int.natCast_nonneg _) (Int.natCast_nonneg _)) (Int.mul_nonneg h1 (Int.natCast_nonneg _));omega
def qgz{x:Rl}(hn:x.n=false):(x.p.num*(x.r.den:Int)+((bT (((x.p.den:Int)*(x.p.den:Int))*(x.r.num*(x.r.den:Int))).natAbs:Nat):Int))/((x.p.den:Int)*(x.r.den:Int))=lV x:=by
 unfold lV;rw[if_neg (by rw[hn];decide),qnW];simp only[Int.natCast_mul]
def qgA(x:Rl):(x.p.den:Int)*(x.r.den:Int)≠0:=Int.mul_ne_zero (by have:=x.p.den_pos;omega) (by have:=x.r.den_pos;omega)
def XQ{x y:Rl}{r:Rat}(h:tu x y=some r):(dV x=true∧dV y=true∧gJ x<=1000∧gJ y<=1000∧¬XC x<0∧0<XC y∧0<bQ y (rl ((lV x+1:Int):Rat))∧x.n=false∧jD (lV x)<=4000)∧r=((lV x+1:Int):Rat):=by
 unfold tu at h
 split at h
 ·rename_i hc;exact⟨hc,by injection h with e;exact e.symm⟩
 ·cases h
section
variable{sm:Rl->Rl->Option Rat}{q:Qd}{i:Iv}
def Es{s:Int}(h:F8 sm q i=some s):bQ i.f i.t<0∧∃r,sm i.f i.t=some r∧cO r<=5000∧s=XC (O8 q (rl r)):=by
 unfold F8 at h
 split at h
 ·rename_i hc
  refine⟨hc,?_⟩;rcases hs:sm i.f i.t with _|r
  ·rw[hs] at h;cases h
  ·rw[hs] at h;simp only[Option.bind_some] at h
   split at h
   ·rename_i h5;injection h with e;exact⟨r,rfl,h5,e.symm⟩
   ·cases h
 ·cases h
variable{x:Rl}{k:Nat}{rs:List Rl}{rest:Iv}{o l:List (Iv×Int)}
def qlq(hx:rs[k]? =some x)(hin:Xc i x=false)(h:gW sm q i (rs.drop k) rest o=some l):gW sm q i (rs.drop (k+1)) rest o=some l:=by
 rw[xG hx,gW,if_pos hin] at h;exact h
def qlr(hx:rs[k]? =some x)(hin:Xc i x=true)(hlt:bQ rest.f x<0)(h:gW sm q i (rs.drop k) rest o=some l):∃s,F8 sm q ⟨rest.f,x,rest.fo,true⟩=some s∧gW sm q i (rs.drop (k+1)) ⟨x,rest.t,true,rest.tp⟩ (o++[(⟨rest.f,x,rest.fo,true⟩,s)]++[(⟨x,x,false,false⟩,0)])=some l:=by
 rw[xG hx,gW,if_neg (by rw[hin];decide),if_pos hlt] at h;rcases hp:F8 sm q ⟨rest.f,x,rest.fo,true⟩ with _|s
 ·rw[hp] at h;cases h
 ·rw[hp] at h;exact⟨s,rfl,by rw[List.append_assoc];exact h⟩
def qls(hx:rs[k]? =some x)(hin:Xc i x=true)(hge:¬bQ rest.f x<0)(h:gW sm q i (rs.drop k) rest o=some l):gW sm q i (rs.drop (k+1)) ⟨x,rest.t,true,rest.tp⟩ (o++[(⟨x,x,false,false⟩,0)])=some l:=by
 rw[xG hx,gW,if_neg (by rw[hin];decide),if_neg hge] at h;exact h
def qak(ho:lF rest=true)(h:gW sm q i (rs.drop rs.length) rest o=some l):∃s,F8 sm q rest=some s∧l=o++[(rest,s)]:=by
 rw[List.drop_length,gW,if_pos ho] at h;rcases hp:F8 sm q rest with _|s
 ·rw[hp] at h;cases h
 ·rw[hp] at h;injection h with e;exact⟨s,rfl,e.symm⟩
def qal(ho:lF rest=false)(h:gW sm q i (rs.drop rs.length) rest o=some l):l=o:=by
 rw[List.drop_length,gW,if_neg (by rw[ho];decide)] at h
 injection h with e;exact e.symm
end
def qgB{q:Qd}(h2:q.c2≠0)(hr:q.c1/(-2*q.c2)*(q.c1/(-2*q.c2))-q.c0/q.c2=0):dK q=[rl (q.c1/(-2*q.c2))]:=by
 unfold dK;rw[if_neg h2];dsimp only;rw[hr,if_neg ax,if_pos rfl]
end Go.Via
namespace Go.Proofs.YtaffcpfhedadhaaGreatDoor
open Go Go.RowKit Go.Via
def BA(q:Rat):aP Tryz.prog 279 #[Q q] (I q.num):=by
 refine xI 5 Tryz.func279 fun w=>?_;refine jd fun g0=>?_;refine Al 2 xO (fun g1=>?_);refine A5 ?_;refine L2 0 0 ?_;refine Ss 1 ?_;refine A3 ?_;refine SH 1 ?_;exact rfl
def Np(z:Int)(h0:¬z<0)(hz:nb z.natAbs<=33554432:=by omega):aP Tryz.prog 280 #[I z] (.tuple #[I ((bT z.natAbs:Nat):Int),.int .i64 0]):=by
 refine xI 11 Tryz.func280 fun w=>?_;refine nD fun g0=>?_;refine Al 2 xO (fun g1=>?_);refine lD ?_;refine Cd ?_ ?_<;>intro haQ
 ·exact absurd (of_decide_eq_true haQ) h0
 ·refine A6 ?_;refine Pc (AZ z.natAbs hz) ?_;refine Pc (dA false (bT z.natAbs)) ?_;refine Ss 1 ?_;refine A4 ?_;refine bM rfl (bz 1 rfl rfl yH (vs:=[_,_]) rfl rfl (Nat.le_of_ble_eq_true rfl) rfl) (au rfl) (fun w hL=>⟨?_,hL.below⟩);exact rfl
def zB(p q:Rat)(hp:cO p<=4194303:=by omega)(hq:cO q<=4194303:=by omega):aP Tryz.prog 234 #[Q p,Q q] (Q (p/q)):=by
 refine oz 14 Tryz.func234 fun w=>?_;refine jd fun g0=>?_;refine Bp 4 (fun g1=>?_);refine Al 4 qL (fun g2=>?_);refine A4 ?_;refine jM ?_;refine Pc (Ba p q hp hq) ?_;refine A3 ?_;refine Al 4 qL (fun g3=>?_);refine Ss 3 ?_;refine A5 ?_;refine L4 3 0 ?_;refine eG ?_;refine Ip 2 ?_;exact rfl
def RU(z:Int)(hz:jD z<=8388608:=by omega):aP Tryz.prog 261 #[I z] (Q (z:Rat)):=by
 refine xI 12 Tryz.func261 fun w=>?_;refine nD fun g0=>?_;refine Al 4 qL (fun g1=>?_);refine A3 ?_;refine Dq [3000000] [0,1,2,3,4,6,7,5,8] ?_;refine L2 0 0 ?_;refine Pc (mg 1) ?_;refine Pc (zl z 1 hz (Nat.le_trans (BP ae ae) ae)) ?_;refine A2 ?_;refine aF 9 (Q (z:Rat)) rfl (congrArg Q (rH z)) ?_;refine Al 4 qL (fun g2=>?_);refine Ss 2 ?_;refine A6 ?_;refine L4 2 0 ?_;refine Ss 1 ?_;refine A3 ?_;refine Ip 1 ?_;exact rfl
def RX(x:Rl)(hx:gJ x<=1000)(h0:0<=x.r)(hn:x.n=false):aP Tryz.prog 260 #[RV x] (I (lV x)):=by
 have e1:=Nat.le_trans (sF x) hx;have e2:=Nat.le_trans (yh x) hx;have n1:=lY e1;have d1:=kX e1;have n2:=lY e2;have d2:=kX e2;have z1:=lX d1 d1;have z2:=lX n2 d2;have z3:=lX z1 z2;have z4:=lX n1 d2;have z5:jD ((bT (((x.p.den:Int)*(x.p.den:Int))*(x.r.num*(x.r.den:Int))).natAbs:Nat):Int)<=4000:=zY (Nat.le_trans (oO _) z3);have z6:=Jm z4 z5;have z7:=lX d1 d2;refine xI 59 Tryz.func260 fun w=>?_;refine A2 ?_;refine Bp 9 (fun g0=>?_);refine Al 2 xO (fun g1=>?_);refine A3 ?_;refine Dq [3000000] [0,1,3,4,2,5,6,7,8,9] ?_;refine A1 ?_;refine L4 0 0 ?_;refine A1 ?_;refine L4 0 0 ?_;refine Pc (BA x.p) ?_;refine Pc (eQ x.p) ?_;refine Al 2 xO (fun g2=>?_);refine Al 2 xO (fun g3=>?_);refine Ss 2 ?_;refine Ss 3 ?_;refine A3 ?_;refine Dq [3000000] [0,1,3,4,2,5,6,7,8,9] ?_;refine A1 ?_;refine L4 0 4 ?_;refine A1 ?_;refine L4 0 4 ?_;refine Pc (BA x.r) ?_;refine Pc (eQ x.r) ?_;refine Al 2 xO (fun g4=>?_);refine Al 2 xO (fun g5=>?_);refine Ss 4 ?_;refine Ss 5 ?_;refine A3 ?_;refine Dq [3000000] [0,1,3,4,2,5,6,7,8,9,11,12,10,13] ?_;refine L2 3 0 ?_;refine L2 3 0 ?_;refine L2 4 0 ?_;refine L2 5 0 ?_;refine Pc (lJ (x.p.den:Int) (x.p.den:Int)) ?_;refine Pc (lJ x.r.num (x.r.den:Int)) ?_;refine Pc (lJ ((x.p.den:Int)*(x.p.den:Int)) (x.r.num*(x.r.den:Int))) ?_;refine Pc (Np (((x.p.den:Int)*(x.p.den:Int))*(x.r.num*(x.r.den:Int))) (qnX h0) (Nat.le_trans z3 ae)) ?_;refine A2 ?_;refine Al 2 xO (fun g6=>?_);refine Ss 6 ?_;refine A6 ?_;refine L2 2 0 ?_;refine L2 5 0 ?_;refine Pc (lJ x.p.num (x.r.den:Int)) ?_;refine Al 2 xO (fun g7=>?_);refine Ss 7 ?_;refine A9 ?_;refine Cd ?_ ?_<;>intro haQ
 ·exact absurd haQ (by rw[hn];decide)
 ·refine A1 ?_;refine L2 7 0 ?_;refine L2 6 0 ?_;refine Pc (xm (x.p.num*(x.r.den:Int)) ((bT (((x.p.den:Int)*(x.p.den:Int))*(x.r.num*(x.r.den:Int))).natAbs:Nat):Int)) ?_;refine Ss 7 ?_;refine A3 ?_;refine Dq [3000000] [0,1,2,3,4,5,6,9,10,11,7,12,8,13] ?_;refine L2 7 0 ?_;refine L2 3 0 ?_;refine L2 5 0 ?_;refine Pc (lJ (x.p.den:Int) (x.r.den:Int)) ?_;refine Pc (yf (x.p.num*(x.r.den:Int)+((bT (((x.p.den:Int)*(x.p.den:Int))*(x.r.num*(x.r.den:Int))).natAbs:Nat):Int)) ((x.p.den:Int)*(x.r.den:Int)) ae ae (qgA x)) ?_;refine A2 ?_;refine aF 55 (I (lV x)) rfl (congrArg I (qgz hn)) ?_;refine Al 2 xO (fun g8=>?_);refine Al 2 xO (fun g9=>?_);refine Ss 8 ?_;refine A1 ?_;refine Ss 9 ?_;refine A6 ?_;refine L2 8 0 ?_;refine Ss 1 ?_;refine A3 ?_;refine SH 1 ?_;exact rfl
def H7(x y:Rl)(hx:gJ x<=1000)(hy:gJ y<=1000)(h0:0<=x.r)(hn:x.n=false)(h1:¬XC x<0)(h2:0<XC y)(h3:0<bQ y (rl ((lV x+1:Int):Rat)))(hf:jD (lV x)<=4000:=by omega):aP Tryz.prog 235 #[RV x,RV y] (Q ((lV x+1:Int):Rat)):=by
 have f1:jD (lV x+1)<=4002:=Jm hf (BP (z:=1) ae ae);have f2:cO ((lV x+1:Int):Rat)<=4002:=qhA f1 ae;refine oz 81 Tryz.func235 fun w=>?_;refine A2 ?_;refine Bp 9 (fun g0=>?_);refine Bp 9 (fun g1=>?_);refine Al 4 qL (fun g2=>?_);refine A6 ?_;refine L9 0 0 ?_;refine Pc (Bf x) ?_;refine A2 ?_;refine Rs 18 ?_ ?_<;>intro haQ
 ·exact absurd (of_decide_eq_true haQ) h1
 ·refine lD ?_;refine L9 1 0 ?_;refine Pc (Bf y) ?_;refine A4 ?_;refine Cd ?_ ?_<;>intro hbQ
  ·exact absurd (of_decide_eq_true hbQ) (by show¬XC y<=0;omega)
  ·refine A5 ?_;refine L9 0 0 ?_;refine Pc (RX x hx h0 hn) ?_;refine Al 2 xO (fun g3=>?_);refine Ss 3 ?_;refine A3 ?_;refine Dq [3000000] [0,1,2,3,4,5] ?_;refine L2 3 0 ?_;refine Pc (mg 1) ?_;refine Pc (xm (lV x) 1 ae (Nat.le_trans (BP ae ae) ae)) ?_;refine Pc (RU (lV x+1)) ?_;refine Al 4 qL (fun g4=>?_);refine Ss 4 ?_;refine A5 ?_;refine L9 1 0 ?_;refine L4 4 0 ?_;refine Pc (wL y ((lV x+1:Int):Rat)) ?_;refine A3 ?_;refine Cd ?_ ?_<;>intro hcQ
   ·refine A2 ?_;refine L4 4 0 ?_;refine Ss 2 ?_;refine A4 ?_;refine Ip 2 ?_;exact rfl
   ·exact absurd h3 (of_decide_eq_false hcQ)
end Go.Proofs.YtaffcpfhedadhaaGreatDoor
