/-
  Part 42 (chapter 32): lemmas, walks. Each theorem states its own conditions.
-/
import Derived.Shelf.SlSortCmp.WholeK
import Derived.Shelf.SlSortCmp.NoneTotal
import Derived.Lib.Repeat
import Derived.Sort.Grow
import Derived.Sort.EncStr
import Derived.ChangeSame
import Derived.OpenShut
import Derived.RowKit3
import Derived.ProofKit
import Derived.Deep.Slices
import Derived.Carry
import Derived.ChangeMaps5
import Derived.Test.YtaffcpfhedadhaaGreatDoorCards
import Derived.Test.YtaffcpfhedadhaaGreatDoorTie
import Derived.Deep.DeepHandedRow
import Derived.Lib.LaidTab
import Derived.Lib.SliceRun
import Derived.Test.YtaffcpfhedadhaaGreatDoorA41
set_option linter.all false
set_option maxRecDepth 20000
set_option maxHeartbeats 20000000
namespace Go.Proofs.YtaffcpfhedadhaaGreatDoor
open Go.ChangeShapes Go.WideShapes Go.ChangeAt Go.RowKit
def own:ownKnob Tryz.prog.godebug=none:=by kernel_rfl
noncomputable def Ic(os:Os):World:=
 let w0:=World.holding Tryz.prog os ⟨#[],#[],[]⟩
 {w0 with heap:=(w0.heap.modify 2 fun
 | .cells _ t frozen=> .cells (List.map (Value.int .u8) ([128,191,160,191,128,159,144,191,128,143]++List.replicate 22 0)).toArray t frozen
 |o=>o).modify 1 fun
 | .cells _ t frozen=> .cells (List.map (fun(z:Nat)=>Value.int .u8 z) Go.Pinned.utf8FirstZ).toArray t frozen
 |o=>o}
set_option maxRecDepth 100000 in
def qgZ(os:Os)(args:Array Value):laidMet Tryz.prog [("unicode/utf8.acceptRanges",Rows.laid_unicode_utf8_acceptRanges),("unicode/utf8.first",Rows.laid_unicode_utf8_first)] ((Ic os).forCall (fun _ _=>0) ⟨#[],args,[]⟩).memory:=
 laidMet_of_run' 8 ak ak
end Go.Proofs.YtaffcpfhedadhaaGreatDoor
namespace Go.Via
open Go
def VE{f:Ln}{t:Rl}(hf:jP f<=15)(ht:gJ t<=2):jP (jK f t)<=38:=by
 have h3:=sF t;have a0:=rD f;have a1:=rE f;have a2:=rF f;have a3:=rG f;have z:=zo;have h1:cO (uI (qx f) t.p)<=38:=by
  have h:=xy (qx f) t.p;have e:cO (qx f).c2<=2:=z;have e0:cO (qx f).c0=cO f.x0:=rfl;have e1:cO (qx f).c1=cO f.x1:=rfl;omega
 have h2:cO (uI (qy f) t.p)<=38:=by
  have h:=xy (qy f) t.p;have e:cO (qy f).c2<=2:=z;have e0:cO (qy f).c0=cO f.y0:=rfl;have e1:cO (qy f).c1=cO f.y1:=rfl;omega
 unfold jK
 split
 ·show max (max (cO (uI (qx f) t.p)) (cO 0)) (max (cO (uI (qy f) t.p)) (cO 0))<=38;omega
 ·omega
def qn3(l:List PU):Prop:=∀u∈l,jH u.i<=2∧jP u.f<=38
section
variable{t x y:Nat}{l:List sJ}
def Sr(h6:l.length<=6):qn3 (jF t x y l):=fun u hu=>by
 have he:=PZ h6 u hu;refine⟨xA he.1.2 he.2.2,?_⟩;rw[yw h6] at hu;refine Pi (P:=fun f=>jP f<=38) (fun v hv=>?_) u hu;have h:=Ep (l:=l) (Nb h6) (o:=[]) bI v hv;exact⟨Nat.le_trans h.2.2 ae,VE h.2.2 h.1.2,VE h.2.2 h.2.1.2⟩
end
structure Fl(A B:List PU):Prop where
 sa:DC A
 sb:DC B
 H:CW A B
 la:A.length<=21
 lb:B.length<=21
 za:qn3 A
 zb:qn3 B
def CW.swap{A B:List PU}(H:CW A B):CW B A:=⟨H.sb,H.sa,H.eb,H.ea⟩
def Fl.swap{A B:List PU}(F:Fl A B):Fl B A:=⟨F.sb,F.sa,F.H.swap,F.lb,F.la,F.zb,F.za⟩
section
variable{ta xa ya tb xb yb ch:Nat}{a b:List sJ}
def qn4(ha:a.length<=6)(hb:b.length<=6):Fl (jF ta xa ya a) (ul ta xa ya a tb xb yb b ch):=
 ⟨Nj ha,qgX ha hb,qgY,Nk ha,qgW ha hb,Sr ha,by
 unfold ul;split
 ·exact Sr Yb
 ·exact Sr hb⟩
end
abbrev zN(A B:List PU):List ny:=(aj A B).map aC
section
variable{A B:List PU}
theorem Fl.flat(F:Fl A B):aj A B=flatK rZ A B:=ku nz F.H.sa F.H.sb F.H.ea F.H.eb
def Fl.PS(F:Fl A B):∀x∈aj A B,(gV x.1.f∧gV x.1.t)∧aW gG x.1.b<aW gG x.1.e:=fun x hx=>by
 rw[F.flat] at hx;exact FQ nz F.H.ea F.H.eb x hx
def Fl.cS(F:Fl A B):∀p∈zN A B,gV p.i.f∧gV p.i.t:=fun p hp=>by
 obtain⟨x,hx,rfl⟩:=List.mem_map.1 hp;exact(F.PS x hx).1
theorem Fl.ps(F:Fl A B):∀z∈aj A B,jH z.1<=2∧ui z.2<=324:=fun z hz=>by
 rw[F.flat,qeQ] at hz;obtain⟨x,hx,y,hy,e⟩:=hz;unfold rZ dB at e
 split at e
 ·simp at e;subst e;exact⟨Vj (F.za x hx).1 (F.zb y hy).1,Nat.le_trans (qfJ (F.za x hx).2 (F.zb y hy).2) ae⟩
 ·simp at e
def qlC{f:Qd}{t:Rl}(ht:gV t)(hf:ui f<=324)(hz:gJ t<=2):gJ (O8 f t)<=1000:=by
 obtain⟨z,rfl⟩:=ht;rw[AO];have h:=xy f (z:Rat);have h0:=qf f;have h1:=qg f;have h2:=qF f;have h3:cO (z:Rat)<=2:=Nat.le_trans (sF (rl (z:Rat))) hz;exact Em ae ae
def Fl.sz(F:Fl A B):∀p∈zN A B,jH p.i<=1000∧gJ p.a<=1000∧gJ p.b<=1000:=fun p hp=>by
 obtain⟨x,hx,rfl⟩:=List.mem_map.1 hp;obtain⟨h1,h2⟩:=F.ps x hx;obtain⟨h3,h4⟩:=(F.PS x hx).1;exact⟨Nat.le_trans h1 ae,qlC h3 h2 (Nat.le_trans (jW _) h1),qlC h4 h2 (Nat.le_trans (jX _) h1)⟩
theorem Fl.n(F:Fl A B):(zN A B).length<=42:=by
 have h:=qU A B;have h1:=F.la;have h2:=F.lb;rw[List.length_map];omega
def Fl.ne(h:(zN A B).length≠0):aj A B≠[]:=fun e=>h (by rw[zN,e];rfl)
theorem Fl.most(F:Fl A B)(h:(zN A B).length≠0):bJ (zN A B)=fO (zN A B):=(Xd F.H.sa F.H.sb F.H.ea F.H.eb (Fl.ne h)).symm
def Fl.ok(F:Fl A B)(h:(zN A B).length≠0):yc A B (zN A B) (bJ (zN A B))=0:=qeO F.H.sa F.H.sb F.H.ea F.H.eb (Fl.ne h)
def Fl.comm(F:Fl A B):zN B A=zN A B:=by rw[zN,zN,U5 F.H.sa F.H.sb F.H.ea F.H.eb]
def Fl.nil(F:Fl A B)(h:(zN A B).length=0)(c:List ny)(m:Rl):yc A B c m=36:=by
 unfold yc;rw[if_pos (by rw[List.map_eq_nil_iff.1 (List.length_eq_zero_iff.1 h)];rfl)]
theorem Fl.with(F:Fl A B){x:Rl}(h:decide (bQ (fO (zN A B)) x<=0)=true):((if(zN A B).length=0 then(36:Int) else 0) !=0||decide (bQ (bJ (zN A B)) x<=0))=true:=by
 by_cases h0:(zN A B).length=0
 ·rw[if_pos h0];rfl
 ·rw[F.most h0,h,Bool.or_true]
end
end Go.Via
namespace Go.Via
open Go
def st1(M:Rl)(s:Bool×Rl)(p:ny):Bool×Rl:=if s.1=true then s else if p.a=M then(true,p.i.f) else s
def st2(M:Rl)(s:Bool×Rl)(p:ny):Bool×Rl:=if s.1=true then s else if p.b=M then(true,p.i.t) else s
section
variable{M w:Rl}{sf:Bool}{p:ny}{s:Bool×Rl}
def qp4:LP M s p=st2 M (st1 M s p) p:=by
 unfold LP st1 st2
 by_cases h:s.1=true
 ·simp[h]
 ·by_cases ha:p.a=M<;>simp[h,ha]
def qp5(h:sf=true):(sf,w)=st1 M (sf,w) p:=(if_pos h).symm
def qp6(h:p.a≠M):(sf,w)=st1 M (sf,w) p:=by unfold st1;rw[if_neg h,ite_self]
def qp7(h:sf=false)(ha:p.a=M):(true,p.i.f)=st1 M (sf,w) p:=by subst h;unfold st1;rw[if_neg (show¬false=true by decide),if_pos ha]
def qp8(h:sf=true):(sf,w)=st2 M (sf,w) p:=(if_pos h).symm
def qp9(h:p.b≠M):(sf,w)=st2 M (sf,w) p:=by unfold st2;rw[if_neg h,ite_self]
def qqa(h:sf=false)(ha:p.b=M):(true,p.i.t)=st2 M (sf,w) p:=by subst h;unfold st2;rw[if_neg (show¬false=true by decide),if_pos ha]
end
section
variable{A B:List PU}
def Fl.kp(F:Fl A B):∀p∈zN A B,aW gG p.i.b<aW gG p.i.e:=fun p hp=>by
 obtain⟨z,hz,rfl⟩:=List.mem_map.1 hp
 exact(F.PS z hz).2
def Fl.found(F:Fl A B)(h:(zN A B).length≠0){sf:Bool}{w:Rl}(hI:(sf,w)=(zN A B).foldl (LP (fO (zN A B))) (false,rl 0)):sf=true:=by
 have:=Xg (Fl.ne h) (rl 0)
 have e:bJ ((aj A B).map aC)=fO (zN A B):=F.most h
 rw[e] at this
 have e2:(aj A B).map aC=zN A B:=rfl
 rw[e2,<-hI] at this;exact this
theorem Fl.m1(F:Fl A B)(h:(zN A B).length≠0):(iO A B).1=fO (zN A B):=by rw[F7 h];exact F.most h
theorem Fl.m2(F:Fl A B)(h:(zN A B).length≠0){sf:Bool}{w:Rl}(hI:(sf,w)=(zN A B).foldl (LP (fO (zN A B))) (false,rl 0)):(iO A B).2.1=w:=by
 rw[F7 h]
 have e:bJ ((aj A B).map aC)=fO (zN A B):=F.most h
 show(((aj A B).map aC).foldl (LP (bJ ((aj A B).map aC))) (false,rl 0)).2=w
 rw[e]
 exact(congrArg Prod.snd hI).symm
theorem Fl.m3(F:Fl A B)(h:(zN A B).length≠0){tk:Bool}(hI:tk=(zN A B).foldl (Xe (fO (zN A B)) (oC A B)) false):(iO A B).2.2.1=tk:=by
 rw[F7 h]
 have e:bJ ((aj A B).map aC)=fO (zN A B):=F.most h
 show(aj A B).foldl (VJ (bJ ((aj A B).map aC))) false=tk
 rw[e,hI]
 exact Xf F.H.sa F.H.sb F.H.ea F.H.eb
theorem Fl.m4(h:(zN A B).length≠0):(iO A B).2.2.2=0:=by rw[F7 h]
end
end Go.Via
