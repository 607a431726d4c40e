/-
  Part 37 (chapter 32): lemmas, walks. Each theorem states its own conditions.
-/
import Derived.Shelf.SlSortCmp.WholeK
import Derived.Shelf.SlSortCmp.NoneTotal
import Derived.Lib.Repeat
import Derived.Sort.Grow
import Derived.Sort.EncStr
import Derived.Lib.SliceRun
import Derived.Test.YtaffcpfhedadhaaGreatDoorA34
set_option linter.all false
set_option maxRecDepth 20000
set_option maxHeartbeats 20000000
section
variable{P Q:Prop}{T:Type}{R:T->Prop}
def qwK(h:P:=by refine qaW ?_;refine A3 ?_;refine aH rfl (bn 3 rfl rfl P6 (vs:=[_,_,_,_,_,_,_,_,_,_]) rfl rfl (Nat.le_of_ble_eq_true rfl) rfl) (fun w hL=>⟨⟨some go,oN,oc,qaY⟩,?_,hL.picks [some 4] ⟨⟨_,rfl,aV (congrArg (fun z=>(⟨some go,63,ai bg z,oN,true⟩:aF)) hout)⟩,trivial⟩ rfl rfl⟩);exact(congrArg (fun z=>Ending.returned (UQ (aB (some go) 0 z (oc)) m)) (show _=(wW c (kd%10) (pc%c.length) (qL n e up dn)).length from qaZ)).trans (congrArg (fun z=>Ending.returned (UQ (aB (some go) 0 (wW c (kd%10) (pc%c.length) (qL n e up dn)).length (oc)) z)) hmt.symm)):=h
def qdd(q:Q)(h:aj Q->P:=by intro q_;refine aJ 4 ((k)*38) u32 uj rfl rfl rfl rfl rfl ae ae (bP.ne au hc1) Ag ?_;exact q_.qq):=h ⟨q⟩
def qrq(h:P:=by
 refine A1 ?_;refine Rj 10 ?_
 ·exact qwL):=h
def qwL(h:P:=by
 
 refine ql7 ?_;refine Rj 11 ?_
 ·exact qwM):=h
def qwM(h:P:=by
 
 refine jB rfl 4 ((0)*38) [_,_,_,_,_,_,_] (ai bg (c.set 0 p)) rfl rfl rfl rfl uj rfl (by rw[Nat.ble_eq,bP.length];show 0*38+38<=(c).length*38;(try simp only[List.length_set]);omega) rfl (bP.set (i:=0) p hc1) rfl ?_;refine A1 ?_;refine Rj 12 ?_
 ·exact qwN):=h
def qwN(h:P:=by
 
 refine ql6 ?_;refine Rj 13 ?_
 ·exact quj):=h
def quj(h:P:=by
 
 refine jB rfl 4 ((k)*38) [_,_,_,_,_,_,_] (ai bg ((c.set 0 p).set k p0)) rfl rfl rfl rfl uj rfl (by rw[Nat.ble_eq,bP.length];show k*38+38<=(c.set 0 p).length*38;(try simp only[List.length_set]);omega) rfl (bP.set (i:=k) p0 (by rw[List.length_set];exact hk)) rfl ?_;refine A1 ?_;refine NG ak ?_;refine A4 ?_;exact qwK):=h
def ql4(q:Q)(h:aj Q->P:=by intro q_;refine QN (l':=[⟨_,_,_,_,_,_⟩,⟨_,_,_,_,_,_⟩,⟨_,_,_,_,_,_⟩,⟨_,_,_,_,_,_⟩,⟨_,_,_,_,_,_⟩,⟨_,_,_,_,_,_⟩,⟨_,_,_,_,_,_⟩,⟨_,_,_,_,_,_⟩]) [0,1,2,3,4,5,6,7] 3 mixed ak rfl ?_;refine A3 ?_;refine qgx k u32 uj rfl rfl rfl rfl rfl ae ?_;refine A2 ?_;refine Ar (((k+1:Nat):Int)) ?_;exact q_.qq):=h ⟨q⟩
def JO(q:Q)(h:aj Q->P:=by intro q_;refine qdd ?_;refine dS ((k)*38) 0 rfl rfl rfl uj rfl rfl ?_;exact q_.qq):=h ⟨q⟩
def qaW(q:Q)(h:aj Q->P:=by intro q_;refine qaX ?_;refine So 3 0 [_,_,_,⟨some g2,40,_,10,true⟩,_,_,_] [_,_,_,_,_,_,_,_,_,_] ?_;exact q_.qq):=h ⟨q⟩
def F8(h:P:=by refine A5 ?_;exact qwK):=h
def ql5(q:Q)(h:aj Q->P:=by intro q_;refine L9 5 0 ?_;refine L9 5 0 ?_;refine(Bu [(0,_),(1,_)]) (Tu) ?_;refine Kr 53 (lC ⟨x,x,false,false⟩) ?_;refine(Bu [(0,_)]) (qnl) ?_;refine aP 54 (SgV ((⟨x,x,false,false⟩,0):Iv×Int)) rfl rfl ?_;exact q_.qq):=h ⟨q⟩
def Vb(q:Q)(h:aj Q->P:=by intro q_;refine qdd ?_;refine dS ((k)*38) 29 rfl rfl rfl uj rfl rfl ?_;exact q_.qq):=h ⟨q⟩
def Vd(q:Q)(h:aj Q->P:=by intro q_;refine aT 6 0 [_,_,_,_] rfl rfl rfl rfl BC rfl rfl rfl rfl ?_;exact q_.qq):=h ⟨q⟩
def qaX(q:Q)(h:aj Q->P:=by intro q_;refine aT 5 0 [_,_,_,_,_,_,_,_,_,_] rfl rfl rfl rfl P6 rfl rfl rfl rfl ?_;exact q_.qq):=h ⟨q⟩
def ql6(q:Q)(h:aj Q->P:=by intro q_;refine Ho ((k)*38) u32 uj rfl rfl rfl rfl ae ae Ag ?_;refine A1 ?_;exact q_.qq):=h ⟨q⟩
def ql7(q:Q)(h:aj Q->P:=by intro q_;refine Ho ((0)*38) u32 uj rfl rfl rfl rfl ae ae Ag ?_;refine A1 ?_;exact q_.qq):=h ⟨q⟩
def ql8(q:Q)(h:aj Q->P:=by intro q_;refine aT (v:=Kt p0) 4 ((0)*38) _ rfl rfl rfl rfl uj (bP.sub hp0 0 38 au) rfl au rfl ?_;exact q_.qq):=h ⟨q⟩
def ql9(q:Q)(h:aj Q->P:=by intro q_;refine aT (v:=Kt p) 4 ((k)*38) _ rfl rfl rfl rfl uj (bP.sub hp 0 38 au) rfl au rfl ?_;exact q_.qq):=h ⟨q⟩
def qaY(h:P:=by rw[hout];(try simp only[List.length_set]);exact h3):=h
def qaZ(h:P:=by rw[hout];(try simp only[List.length_set])):=h
def qma(h:P:=by rw[hout,List.drop_of_length_le fZ,List.append_nil,List.length_take];omega):=h
def qa1(h:P:=by show(dG q).length-(k+1)<(dG q).length-k;omega):=h
def qmb(h:P:=by simp only[List.length_append,List.length_cons,List.length_nil];omega):=h
def qmc(h:P:=by have e1:=hcQ;cases e:ja rest<;>simp[e] at e1 ⊢):=h
def qmd(h:P:=by have e:=(qrr hx hna).2;rw[hw] at e;exact e):=h
def qme(h:P:=by rw[List.length_append];exact Nat.succ_le_succ ho):=h
def qmf(h:P:=by show l.length-(k+1)<l.length-k;omega):=h
end
namespace Go.Proofs.YtaffcpfhedadhaaGreatDoor
open Go Go.RowKit Go.Via
def Ls(c:List iT)(cb:Option Nat)(cN cc:Nat)(hcc:c.length<=cc)(hcn:c.length<=400)(m:Rl)(kd pc:Nat)(hkd:kd<256)(hpc:pc<256)(n e:Int)(up dn:Nat)(hn1: -9223372036854775808<=n)(hn2:n<=9223372036854775807)(he1: -9223372036854775808<=e)(he2:e<=9223372036854775807)(hup:up<256)(hdn:dn<256)(hcz:∀p∈c,gV p.i<=5000∧eU p.a<=5000∧eU p.b<=5000)(hmz:eU m<=5000:=by omega):bQ Tryz.prog 21 [⟨cb,63,ai bg c,cN,false⟩] [UQ (aB cb 0 c.length cc) m,.agg #[.int .u8 (kd:Nat),.int .u8 (pc:Nat),.int .i64 n,.int .i64 e,.int .u8 (up:Nat),.int .u8 (dn:Nat)]] (SR (wW c (kd%10) (pc%c.length) (qL n e up dn)).length) (fun z=>UQ z.v (Qq c m (kd%10) (qL n e up dn))) (fun z=>[⟨z.b,63,ai bg (wW c (kd%10) (pc%c.length) (qL n e up dn)),z.n,true⟩]):=by
 refine⟨ak,fun w hL0=>?_⟩;have hqz:=qkr (up:=up) (dn:=dn) hn1 hn2 he1 he2;refine cB2 150 Tryz.func21 hL0 ?_;refine A2 ?_;refine Bo [_,_,_,_,_,_,_,_,_,_] 10 (fun g=>[_,⟨some g,40,_,10,true⟩]) (fun g0=>?_);refine Bo [_,_,_,_,_,_] 6 (fun g=>[_,_,⟨some g,57,_,6,true⟩]) (fun g1=>?_);refine DR [_,_,_,_,_,_,_,_,_,_] 10 (fun g=>[_,_,_,⟨some g,40,_,10,true⟩]) rfl rfl z40 rfl rfl (fun _=>rfl) (fun g2=>?_);refine A2 ?_;refine nV (nt:=150) (X:={z:Option Nat×Nat×Nat // c.length<=z.2.2∧z.2.2*38<=z.2.1}) (fun⟨⟨ob,oN,oc⟩,h3,h4⟩=>[(2,.pointer (some ⟨g0,0,none⟩)),(3,.pointer (some ⟨g1,0,none⟩)),(4,.pointer (some ⟨g2,0,none⟩)),(5,aB ob 0 c.length oc)]) (fun⟨⟨ob,oN,oc⟩,h3,h4⟩=>[⟨cb,63,ai bg c,cN,false⟩,⟨some g0,40,jy (aB cb 0 c.length cc) m,10,true⟩,⟨some g1,57,[.int .u8 (kd:Nat),.int .u8 (pc:Nat),.int .i64 n,.int .i64 e,.int .u8 (up:Nat),.int .u8 (dn:Nat)],6,true⟩,⟨some g2,40,O0,10,true⟩,⟨ob,63,ai bg c,oN,true⟩]) ?_ ?_
 ·
  refine qh 0 rfl (fun hbase=>?_);have hcb:c.length=0∨∃g,cb=some g:=qJ bP au hbase;refine A1 ?_;refine GH [] (fun g=>[_,_,_,_,⟨some g,63,_,0,true⟩]) rfl rfl rfl (IW) rfl (fun _=>rfl) (fun g3=>?_);refine A2 ?_;refine jl (s:=38) (len:=0) 4 0 (ai bg c) (fun r=>[_,_,_,_,⟨r.b,63,ai bg c,r.n,true⟩]) u32 VN rfl rfl rfl rfl rfl rfl rfl rfl rfl rfl rfl (Nat.le_refl _) (Nat.le_refl _) hcb (List.take_of_length_le (by show(ai bg c).length<=_;rw[bP.length];exact Nat.le_refl _)) (bP.length c) (bP.ones _) ae (fun _=>rfl) (fun r=>?_);refine A3 ?_;exact Cb ⟨(r.b,r.n,r.cap),by have e:=r.h;show c.length<=r.cap;omega,r.hn⟩ ⟨rfl,rfl,rfl,(aO rfl (congrArg (fun z=>aB r.b 0 z r.cap) (Nat.zero_add _))),trivial⟩ (xK [some 0,some 1,some 2,some 3,some 4])
 rintro⟨⟨ob,oN,oc⟩,h3,h4⟩;show At _ ⟨150,[(2,.pointer (some ⟨g0,0,none⟩)),(3,.pointer (some ⟨g1,0,none⟩)),(4,.pointer (some ⟨g2,0,none⟩)),(5,aB ob 0 c.length oc)],[⟨cb,63,ai bg c,cN,false⟩,⟨some g0,40,jy (aB cb 0 c.length cc) m,10,true⟩,⟨some g1,57,[.int .u8 (kd:Nat),.int .u8 (pc:Nat),.int .i64 n,.int .i64 e,.int .u8 (up:Nat),.int .u8 (dn:Nat)],6,true⟩,⟨some g2,40,O0,10,true⟩,⟨ob,63,ai bg c,oN,true⟩]⟩ _;replace h3:c.length<=oc:=h3;replace h4:oc*38<=oN:=h4;refine A4 ?_;refine aT 1 1 [_,_,_,_,_,_,_,_,_] rfl rfl rfl rfl jk rfl rfl rfl rfl ?_;refine aP 15 (RV m) rfl rfl ?_;refine qbr [(0,_),(1,_)] rfl rfl rfl (qr8) ?_;refine aP 16 (UQ (aB ob 0 c.length oc) m) rfl rfl ?_;refine DR [_,_,_,_,_,_,_,_,_,_] 10 (fun g=>[_,_,_,_,_,⟨some g,40,_,10,true⟩]) rfl rfl z40 rfl rfl (fun _=>rfl) (fun g3=>?_);refine So 5 0 [_,_,_,_,_,⟨some g3,40,_,10,true⟩] [_,_,_,_,_,_,_,_,_,_] ?_;refine lh ?_;refine jA rfl (fun hb1=>?_) (fun hb1=>?_)
 ·
  have hc0:c=[]:=List.eq_nil_of_length_eq_zero (qae)
  have hout:(wW c (kd%10) (pc%c.length) (qL n e up dn))=c:=by rw[hc0];exact qpH
  have hmt:(Qq c m (kd%10) (qL n e up dn))=m:=by rw[hc0];exact qpI
  refine A2 ?_;refine qaX ?_;refine So 3 0 [_,_,_,⟨some g2,40,_,10,true⟩,_,_] [_,_,_,_,_,_,_,_,_,_] ?_;refine A4 ?_;refine aH rfl (bn 3 rfl rfl P6 (vs:=[_,_,_,_,_,_,_,_,_,_]) rfl rfl (Nat.le_of_ble_eq_true rfl) rfl) (fun w hL=>⟨⟨ob,oN,oc,qaY⟩,?_,hL.picks [some 4] ⟨⟨_,rfl,aV (congrArg (fun z=>(⟨ob,63,ai bg z,oN,true⟩:aF)) hout)⟩,trivial⟩ rfl rfl⟩);exact(congrArg (fun z=>Ending.returned (UQ (aB (ob) 0 z (oc)) m)) (show _=(wW c (kd%10) (pc%c.length) (qL n e up dn)).length from qaZ)).trans (congrArg (fun z=>Ending.returned (UQ (aB (ob) 0 (wW c (kd%10) (pc%c.length) (qL n e up dn)).length (oc)) z)) hmt.symm)
 ·
  have hc1:0<c.length:=qjF
  obtain⟨k,hkE⟩:∃k,pc%c.length=k:=⟨_,rfl⟩
  have hk:k<c.length:=by rw[<-hkE];exact Nat.mod_lt _ hc1
  obtain⟨p,hp⟩:∃p,c[k]? =some p:=⟨c[k],List.getElem?_eq_getElem hk⟩
  obtain⟨p0,hp0⟩:∃p0,c[0]? =some p0:=⟨c[0],List.getElem?_eq_getElem hc1⟩
  obtain⟨hz1,hz2,hz3⟩:=hcz p (List.mem_of_getElem? hp);have hz4:=gW p.i;refine dK 4 rfl (bP.ne au hc1) (fun hbs=>?_);obtain⟨go,hgo⟩:=Option.isSome_iff_exists.1 hbs;replace hgo:ob=some go:=hgo;subst hgo;refine A6 ?_;refine qf7 (r:=((pc:Nat):Int)) u5 u3 rfl rfl rfl (wi ae ae rfl) ?_;refine A2 ?_;refine qf6 (r:=((k:Nat):Int)) rfl rfl rfl rfl ae (congrArg some (by rw[<-hkE];exact lW _ _ rfl rfl)) ?_;refine A6 ?_;refine aT 2 2 [_,_,_,_] rfl rfl rfl rfl qxv rfl rfl rfl rfl ?_;refine Pc (X3 n e up dn hn1 hn2 he1 he2 hup hdn) ?_;refine DR [_,_,_,_] 4 (fun g=>[_,_,_,_,_,_,⟨some g,36,_,4,true⟩]) rfl rfl z36 rfl rfl (fun _=>rfl) (fun g4=>?_);refine So 6 0 [_,_,_,_,_,_,⟨some g4,36,_,4,true⟩] [_,_,_,_] ?_;refine A7 ?_;refine qf6 (r:=((kd%10:Nat):Int)) rfl rfl rfl rfl ae (congrArg some (lW _ _ rfl rfl)) ?_;refine A9 ?_;refine jA rfl (fun hb2=>?_) (fun hb2=>?_)
  ·
   have hK:kd%10=1:=(by have:=of_decide_eq_true hb2;omega)
   have hout:(wW c (kd%10) (pc%c.length) (qL n e up dn))=c:=by rw[hkE];exact qyy hK hk
   have hmt:(Qq c m (kd%10) (qL n e up dn))=⟨m.p+(qL n e up dn),m.r,m.n⟩:=qwr hc1 hK;refine A2 ?_;refine aT 5 1 [_,_,_,_,_,_,_,_,_] rfl rfl rfl rfl jk rfl rfl rfl rfl ?_;refine aP 36 (RV m) rfl rfl ?_;refine Vd ?_;refine aP 37 (Q (qL n e up dn)) rfl rfl ?_;refine Pc (sU m (qL n e up dn)) ?_;refine A1 ?_;refine So 5 1 [_,_,_,_,_,⟨some g3,40,_,10,true⟩,_] [_,_,_,_,_,_,_,_,_,_] ?_;refine A5 ?_;refine qaW ?_;refine A3 ?_;refine aH rfl (bn 3 rfl rfl P6 (vs:=[_,_,_,_,_,_,_,_,_,_]) rfl rfl (Nat.le_of_ble_eq_true rfl) rfl) (fun w hL=>⟨⟨some go,oN,oc,qaY⟩,?_,hL.picks [some 4] ⟨⟨_,rfl,aV (congrArg (fun z=>(⟨some go,63,ai bg z,oN,true⟩:aF)) hout)⟩,trivial⟩ rfl rfl⟩);exact(congrArg (fun z=>Ending.returned (UQ (aB (some go) 0 z (oc)) ⟨m.p+(qL n e up dn),m.r,m.n⟩)) (show _=(wW c (kd%10) (pc%c.length) (qL n e up dn)).length from qaZ)).trans (congrArg (fun z=>Ending.returned (UQ (aB (some go) 0 (wW c (kd%10) (pc%c.length) (qL n e up dn)).length (oc)) z)) hmt.symm)
  ·
   have hn1:kd%10≠1:=(by have:=of_decide_eq_false hb2;omega)
   refine A6 ?_;refine jA rfl (fun hb3=>?_) (fun hb3=>?_)
   ·
    have hK:kd%10=2:=(by have:=of_decide_eq_true hb3;omega)
    have hout:(wW c (kd%10) (pc%c.length) (qL n e up dn))=c.set k ⟨p.i,⟨p.a.p+(qL n e up dn),p.a.r,p.a.n⟩,p.b⟩:=by rw[hkE];exact qyz hK hp
    have hmt:(Qq c m (kd%10) (qL n e up dn))=m:=IA hc1 ae;refine OQ ?_;refine A4 ?_;refine qdd ?_;refine dS ((k)*38) 20 rfl rfl rfl uj rfl rfl ?_;refine aT (v:=RV p.a) 4 ((k)*38+20) _ rfl rfl rfl rfl jk (bP.sub hp 20 9 au) rfl au rfl ?_;refine Vd ?_;refine aP 49 (Q (qL n e up dn)) rfl rfl ?_;refine Pc (sU p.a (qL n e up dn)) ?_;refine qdd ?_;refine dS ((k)*38) 20 rfl rfl rfl uj rfl rfl ?_;refine jB rfl 4 ((k)*38+20) [_,_,_,_,_,_,_] (ai bg (c.set k ⟨p.i,⟨p.a.p+(qL n e up dn),p.a.r,p.a.n⟩,p.b⟩)) rfl rfl rfl rfl jk rfl (by rw[Nat.ble_eq,bP.length];show k*38+20+9<=(c).length*38;(try simp only[List.length_set]);omega) rfl (bP.setf hp rfl au) rfl ?_;exact F8
   ·
    have hn2:kd%10≠2:=(by have:=of_decide_eq_false hb3;omega)
    refine A6 ?_;refine jA rfl (fun hb4=>?_) (fun hb4=>?_)
    ·
     have hK:kd%10=3:=(by have:=of_decide_eq_true hb4;omega)
     have hout:(wW c (kd%10) (pc%c.length) (qL n e up dn))=c.set k ⟨p.i,p.a,⟨p.b.p+(qL n e up dn),p.b.r,p.b.n⟩⟩:=by rw[hkE];exact qyA hK hp
     have hmt:(Qq c m (kd%10) (qL n e up dn))=m:=IA hc1 ae;refine OQ ?_;refine A4 ?_;refine Vb ?_;refine aT (v:=RV p.b) 4 ((k)*38+29) _ rfl rfl rfl rfl jk (bP.sub hp 29 9 au) rfl au rfl ?_;refine Vd ?_;refine aP 62 (Q (qL n e up dn)) rfl rfl ?_;refine Pc (sU p.b (qL n e up dn)) ?_;refine Vb ?_;refine jB rfl 4 ((k)*38+29) [_,_,_,_,_,_,_] (ai bg (c.set k ⟨p.i,p.a,⟨p.b.p+(qL n e up dn),p.b.r,p.b.n⟩⟩)) rfl rfl rfl rfl jk rfl (by rw[Nat.ble_eq,bP.length];show k*38+29+9<=(c).length*38;(try simp only[List.length_set]);omega) rfl (bP.setf hp rfl au) rfl ?_;exact F8
    ·
     have hn3:kd%10≠3:=(by have:=of_decide_eq_false hb4;omega)
     refine A6 ?_;refine jA rfl (fun hb5=>?_) (fun hb5=>?_)
     ·
      have hK:kd%10=4:=(by have:=of_decide_eq_true hb5;omega)
      have hout:(wW c (kd%10) (pc%c.length) (qL n e up dn))=c.set k ⟨⟨p.i.f,⟨p.i.t.p+(qL n e up dn),p.i.t.r,p.i.t.n⟩,p.i.fo,p.i.tp⟩,p.a,p.b⟩:=by rw[hkE];exact qyB hK hp
      have hmt:(Qq c m (kd%10) (qL n e up dn))=m:=IA hc1 ae;refine OQ ?_;refine A4 ?_;refine JO ?_;refine dS ((k)*38) 9 rfl rfl rfl o7 rfl rfl ?_;refine aT (v:=RV p.i.t) 4 ((k)*38+9) _ rfl rfl rfl rfl jk (bP.sub hp 9 9 au) rfl au rfl ?_;refine Vd ?_;refine aP 76 (Q (qL n e up dn)) rfl rfl ?_;refine Pc (sU p.i.t (qL n e up dn)) ?_;refine JO ?_;refine dS ((k)*38) 9 rfl rfl rfl o7 rfl rfl ?_;refine jB rfl 4 ((k)*38+9) [_,_,_,_,_,_,_] (ai bg (c.set k ⟨⟨p.i.f,⟨p.i.t.p+(qL n e up dn),p.i.t.r,p.i.t.n⟩,p.i.fo,p.i.tp⟩,p.a,p.b⟩)) rfl rfl rfl rfl jk rfl (by rw[Nat.ble_eq,bP.length];show k*38+9+9<=(c).length*38;(try simp only[List.length_set]);omega) rfl (bP.setf hp rfl au) rfl ?_;exact F8
     ·
      have hn4:kd%10≠4:=(by have:=of_decide_eq_false hb5;omega)
      refine A6 ?_;refine jA rfl (fun hb6=>?_) (fun hb6=>?_)
      ·
       have hK:kd%10=5:=(by have:=of_decide_eq_true hb6;omega)
       have hout:(wW c (kd%10) (pc%c.length) (qL n e up dn))=c.set k ⟨⟨p.i.f,p.i.t,p.i.fo,!p.i.tp⟩,p.a,p.b⟩:=by rw[hkE];exact qyC hK hp
       have hmt:(Qq c m (kd%10) (qL n e up dn))=m:=IA hc1 ae;refine A5 ?_;refine JO ?_;refine dS ((k)*38) 19 rfl rfl rfl o7 rfl rfl ?_;refine aT (v:= .bool p.i.tp) 4 ((k)*38+19) _ rfl rfl rfl rfl Ya (bP.sub hp 19 1 au) rfl au rfl ?_;refine A1 ?_;refine JO ?_;refine dS ((k)*38) 19 rfl rfl rfl o7 rfl rfl ?_;refine jB rfl 4 ((k)*38+19) [_,_,_,_,_,_,_] (ai bg (c.set k ⟨⟨p.i.f,p.i.t,p.i.fo,!p.i.tp⟩,p.a,p.b⟩)) rfl rfl rfl rfl Ya rfl (by rw[Nat.ble_eq,bP.length];show k*38+19+1<=(c).length*38;(try simp only[List.length_set]);omega) rfl (bP.setf hp rfl au) rfl ?_;exact F8
      ·
       have hn5:kd%10≠5:=(by have:=of_decide_eq_false hb6;omega)
       refine A6 ?_;refine jA rfl (fun hb7=>?_) (fun hb7=>?_)
       ·
        have hK:kd%10=6:=(by have:=of_decide_eq_true hb7;omega)
        have hout:(wW c (kd%10) (pc%c.length) (qL n e up dn))=c.set k ⟨⟨p.i.f,p.i.t,!p.i.fo,p.i.tp⟩,p.a,p.b⟩:=by rw[hkE];exact qyD hK hp
        have hmt:(Qq c m (kd%10) (qL n e up dn))=m:=IA hc1 ae;refine A5 ?_;refine JO ?_;refine dS ((k)*38) 18 rfl rfl rfl o7 rfl rfl ?_;refine aT (v:= .bool p.i.fo) 4 ((k)*38+18) _ rfl rfl rfl rfl Ya (bP.sub hp 18 1 au) rfl au rfl ?_;refine A1 ?_;refine JO ?_;refine dS ((k)*38) 18 rfl rfl rfl o7 rfl rfl ?_;refine jB rfl 4 ((k)*38+18) [_,_,_,_,_,_,_] (ai bg (c.set k ⟨⟨p.i.f,p.i.t,!p.i.fo,p.i.tp⟩,p.a,p.b⟩)) rfl rfl rfl rfl Ya rfl (by rw[Nat.ble_eq,bP.length];show k*38+18+1<=(c).length*38;(try simp only[List.length_set]);omega) rfl (bP.setf hp rfl au) rfl ?_;exact F8
       ·
        have hn6:kd%10≠6:=(by have:=of_decide_eq_false hb7;omega)
        refine A6 ?_;refine jA rfl (fun hb8=>?_) (fun hb8=>?_)
        ·
         have hK:kd%10=7:=(by have:=of_decide_eq_true hb8;omega)
         have hout:(wW c (kd%10) (pc%c.length) (qL n e up dn))=c.take k++c.drop (k+1):=by rw[hkE];exact qyE hK
         have hmt:(Qq c m (kd%10) (qL n e up dn))=m:=IA hc1 ae
         rcases Classical.em (k+1=c.length) with hfk|hfk
         ·
          refine ql4 ?_;refine GV (k+1) u32 uj rfl rfl rfl rfl ae rfl (show _=0 by omega) rfl ?_;refine A1 ?_;refine Rj 8 ?_
          ·
           refine YQ u32 VN rfl rfl rfl (Nat.le_refl _) rfl ?_;refine A1 ?_;refine Rj 9 ?_
           ·
            refine A2 ?_;refine Rj 10 ?_
            ·
             refine So 5 0 [_,_,_,_,_,⟨some g3,40,_,10,true⟩,_] [_,_,_,_,_,_,_,_,_,_] ?_;refine A1 ?_;refine NG ak ?_;refine A4 ?_;refine qaW ?_;refine A3 ?_;refine aH rfl (bn 3 rfl rfl P6 (vs:=[_,_,_,_,_,_,_,_,_,_]) rfl rfl (Nat.le_of_ble_eq_true rfl) rfl) (fun w hL=>⟨⟨some go,oN,k,qma⟩,?_,hL.picks [some 4] ⟨⟨_,rfl,⟨rfl,rfl,rfl,⟨k*38,by show ai bg (wW c (kd%10) (pc%c.length) (qL n e up dn))=_;rw[hout,List.drop_of_length_le ae,List.append_nil];exact(bP.takeR c k).symm⟩,id⟩⟩,trivial⟩ rfl rfl⟩);exact(congrArg (fun z=>Ending.returned (UQ (aB (some go) 0 z (k)) m)) (show _=(wW c (kd%10) (pc%c.length) (qL n e up dn)).length from qma)).trans (congrArg (fun z=>Ending.returned (UQ (aB (some go) 0 (wW c (kd%10) (pc%c.length) (qL n e up dn)).length (k)) z)) hmt.symm)
         ·
          have hk2:k+1<c.length:=ae
          refine ql4 ?_;refine GV (k+1) u32 uj rfl rfl rfl rfl ae rfl rfl rfl ?_;refine A1 ?_;refine Rj 8 ?_
          ·
           refine qdO (len:=k) (n2:=c.length-(k+1)) 4 4 (ai bg (c.take k)) (ai bg (c.drop (k+1))) (fun r=>[_,_,_,_,_,_,_,⟨some r.g,63,ai bg (c.take k)++ai bg (c.drop (k+1)),r.n,true⟩]) u32 VN rfl rfl rfl rfl rfl rfl rfl rfl rfl (bP.takeR c k) (bP.lenTake ae) ae (Nat.le_refl _) (bP.dropT h3 ae) (bP.lenDrop c (k+1)) (bP.ones _) ae (fun _=>rfl) (fun r=>?_);refine A1 ?_;refine Rj 9 ?_
           ·
            refine A2 ?_;refine Rj 10 ?_
            ·
             refine So 5 0 [_,_,_,_,_,⟨some g3,40,_,10,true⟩,_,_] [_,_,_,_,_,_,_,_,_,_] ?_;refine A1 ?_;refine NG ak ?_;refine A4 ?_;refine qaX ?_;refine So 3 0 [_,_,_,⟨some g2,40,_,10,true⟩,_,_,_,_] [_,_,_,_,_,_,_,_,_,_] ?_;refine A3 ?_;refine aH rfl (bn 3 rfl rfl P6 (vs:=[_,_,_,_,_,_,_,_,_,_]) rfl rfl (Nat.le_of_ble_eq_true rfl) rfl) (fun w hL=>⟨⟨some r.g,r.n,r.cap,(by rw[hout,List.length_append,List.length_take,List.length_drop];have e:=r.h;omega)⟩,?_,hL.picks [some 7] ⟨⟨_,rfl,aV ((congrArg (fun z=>(⟨some r.g,63,ai bg z,r.n,true⟩:aF)) hout).trans (congrArg (fun z=>(⟨some r.g,63,z,r.n,true⟩:aF)) (pK _ _)))⟩,trivial⟩ rfl rfl⟩);exact(congrArg (fun z=>Ending.returned (UQ (aB (some r.g) 0 z (r.cap)) m)) (show _=(wW c (kd%10) (pc%c.length) (qL n e up dn)).length from(by rw[hout,List.length_append,List.length_take,List.length_drop];omega))).trans (congrArg (fun z=>Ending.returned (UQ (aB (some r.g) 0 (wW c (kd%10) (pc%c.length) (qL n e up dn)).length (r.cap)) z)) hmt.symm)
        ·
         have hn7:kd%10≠7:=(by have:=of_decide_eq_false hb8;omega)
         refine A6 ?_;refine jA rfl (fun hb9=>?_) (fun hb9=>?_)
         ·
          have hK:kd%10=8:=(by have:=of_decide_eq_true hb9;omega)
          have hout:(wW c (kd%10) (pc%c.length) (qL n e up dn))=(c.set 0 p).set k p0:=by rw[hkE];exact qyF hK hp0 hp
          have hmt:(Qq c m (kd%10) (qL n e up dn))=m:=IA hc1 ae;refine QN (l':=[⟨_,_,_,_,_,_⟩,⟨_,_,_,_,_,_⟩,⟨_,_,_,_,_,_⟩,⟨_,_,_,_,_,_⟩,⟨_,_,_,_,_,_⟩,⟨_,_,_,_,_,_⟩,⟨_,_,_,_,_,_⟩,⟨_,_,_,_,_,_⟩]) [0,1,2,3,4,5,7,8] 6 mixed ak rfl ?_;refine A5 ?_;refine ql6 ?_;refine ql7 ?_;refine Tn2 6 9 ?_ ?_
          ·
           refine ql9 ?_;refine A1 ?_;refine Rj 9 ?_
           ·
            refine ql8 ?_;exact qrq
          ·
           refine ql8 ?_;refine A1 ?_;refine Rj 6 ?_
           ·
            refine ql9 ?_;exact qrq
         ·
          have hn8:kd%10≠8:=(by have:=of_decide_eq_false hb9;omega)
          refine A6 ?_;refine jA rfl (fun hb10=>?_) (fun hb10=>?_)
          ·
           have hK:kd%10=9:=(by have:=of_decide_eq_true hb10;omega)
           have hout:(wW c (kd%10) (pc%c.length) (qL n e up dn))=c.set k ⟨p.i,p.a,⟨p.b.p,p.b.r,!p.b.n⟩⟩:=by rw[hkE];exact qyG hK hp
           have hmt:(Qq c m (kd%10) (qL n e up dn))=m:=IA hc1 ae;refine A5 ?_;refine Vb ?_;refine dS ((k)*38+29) 8 rfl rfl rfl jk rfl rfl ?_;refine aT (v:= .bool p.b.n) 4 ((k)*38+29+8) _ rfl rfl rfl rfl Ya (bP.sub hp 37 1 au) rfl au rfl ?_;refine A1 ?_;refine Vb ?_;refine dS ((k)*38+29) 8 rfl rfl rfl jk rfl rfl ?_;refine jB rfl 4 ((k)*38+29+8) [_,_,_,_,_,_,_] (ai bg (c.set k ⟨p.i,p.a,⟨p.b.p,p.b.r,!p.b.n⟩⟩)) rfl rfl rfl rfl Ya rfl (by rw[Nat.ble_eq,bP.length];show k*38+37+1<=(c).length*38;(try simp only[List.length_set]);omega) rfl (bP.setf (o:=37) hp rfl au) rfl ?_;exact F8
          ·
           have hn9:kd%10≠9:=(by have:=of_decide_eq_false hb10;omega)
           have hout:(wW c (kd%10) (pc%c.length) (qL n e up dn))=c:=by rw[hkE];exact qwt ae hp
           have hmt:(Qq c m (kd%10) (qL n e up dn))=m:=IA hc1 ae;exact F8
def IB(sm:Rl->Rl->Option Rat)(hsm:∀x y r,sm x y=some r->aG Tryz.prog 235 #[RV x,RV y] (Q r))(q:Qd)(i:Iv)(l:List (Iv×Int))(h:gG sm q i (dG q) i []=some l)(hf:bK i.f=true)(ht:bK i.t=true)(hoi:ja i=true)(hrt:bQ Tryz.prog 170 [] [uf q] (SR (dG q).length) (fun z=> .tuple #[z.v,.int .i64 0]) (fun z=>[⟨z.b,38,ai kQ (dG q),z.n,true⟩]))(hrz:∀r∈dG q,eU r<=1000∧bK r=true)(hrl:(dG q).length<=2:=by omega)(hq:ve q<=10000:=by omega)(hi:gV i<=1000:=by omega):bQ Tryz.prog 125 [] [uf q,lC i] (SR l.length) (fun z=> .tuple #[z.v,.int .i64 0]) (fun z=>[⟨z.b,181,ai Hu l,z.n,true⟩]):=by
 refine sB2 71 Tryz.func125 fun w hL0=>?_;refine kE fun g0=>?_;refine Bp 20 (fun g1=>?_);refine A7 ?_;refine zO 1 0 ?_;refine Pc (xY i hi hf ht) ?_;refine aP 14 (.int .i64 0) rfl (congrArg (Value.int .i64) (if_pos hoi)) ?_;refine A9 ?_;refine Cd ?_ ?_<;>intro haQ
 ·exact absurd haQ au
 ·refine A9 ?_;refine xg 0 0 ?_;refine(Sc []) hrt (fun z=>?_);obtain⟨rb,rN,rc,hrc⟩:=z;refine A9 ?_;refine zO 1 0 ?_;refine Al 20 z61 (fun g2=>?_);refine Ss 3 ?_;refine qX ?_;refine El (ι:={z:Nat×Iv×List (Iv×Int)×Option Nat×Nat×Nat // z.1<=(dG q).length∧gG sm q i ((dG q).drop z.1) z.2.1 z.2.2.1=some l∧(bK z.2.1.f=true∧bK z.2.1.t=true∧gV z.2.1<=1000)∧z.2.2.1.length<=2*z.1∧z.2.2.1.length<=z.2.2.2.2.2∧z.2.2.2.2.2*21<=z.2.2.2.2.1}) (fun⟨⟨k,rest,o,ob,oN,oc⟩,hk,hI,hre,ho,h3,h4⟩=>([(2,dA g0),(3,dA g1),(7,aB ob 0 o.length oc),(10,dA g2),(24,aB rb 0 (dG q).length rc),(25,bF ((dG q).length)),(26,bF k)],[⟨some g0,91,qoJ q,12,true⟩,⟨some g1,61,aZ i,20,true⟩,⟨rb,38,ai kQ (dG q),rN,true⟩,⟨some g2,61,aZ rest,20,true⟩,⟨ob,181,ai Hu o,oN,true⟩],(dG q).length-k)) ⟨⟨0,i,[],none,0,0⟩,Nat.zero_le _,h,⟨hf,ht,hi⟩,Nat.le_refl _,Nat.le_refl _,bz⟩ ?_ (hL:=(ay [some 0,some 1,some 2,some 3,none] ⟨pR,pR,pR,pR,⟨rfl,rfl,rfl⟩,trivial⟩ rfl rfl));rintro⟨⟨k,rest,o,ob,oN,oc⟩,hk,hI,hre,ho,h3,h4⟩;(try dsimp only);replace hk:k<=(dG q).length:=hk;replace hI:gG sm q i ((dG q).drop k) rest o=some l:=hI;replace hre:bK rest.f=true∧bK rest.t=true∧gV rest<=1000:=hre;replace ho:o.length<=2*k:=ho;replace h3:o.length<=oc:=h3;replace h4:oc*21<=oN:=h4;have hre3:=hre.2.2;have hrf:=ig rest;have hrt2:=gW rest;refine A6 ?_;refine Cd ?_ ?_<;>intro hbQ
  ·have hlt:k<(dG q).length:=kN;obtain⟨x,hx⟩:∃x,(dG q)[k]? =some x:=⟨(dG q)[k],List.getElem?_eq_getElem hlt⟩;have hxs:=hrz x (List.mem_of_getElem? hx);have hxs1:=hxs.1;refine dK 2 rfl (gZ.ne au ae) (fun hbs=>?_);obtain⟨gr,hgr⟩:=Option.isSome_iff_exists.1 hbs;replace hgr:rb=some gr:=hgr;subst hgr;refine A6 ?_;refine aJ 2 ((k)*9) Eg jk rfl rfl rfl rfl rfl ae ae (gZ.ne au ae) Ju ?_;refine aT (v:=RV x) 2 ((k)*9) _ rfl rfl rfl rfl jk (gZ.sub hx 0 9 au) rfl au rfl ?_;refine Al 9 QI (fun g3=>?_);refine Ss 5 ?_;refine A5 ?_;refine zO 1 0 ?_;refine L9 5 0 ?_;refine Pc (Dn i x) ?_;refine A3 ?_;refine Cd ?_ ?_<;>intro hcQ
   ·have hin:Jl i x=false:=rX
    refine A5 ?_;refine Ce ?_;exact Nl ⟨⟨k+1,rest,o,ob,oN,oc⟩,hlt,qrh hx hin hI,hre,by show o.length<=2*(k+1);omega,h3,h4⟩ (hμ:=qa1) (hL:=fE.auto)
   ·have hin:Jl i x=true:=rX
    refine A6 ?_;refine L9 3 0 ?_;refine L9 5 0 ?_;refine Pc (dF rest.f x) ?_;refine A3 ?_;refine Cd ?_ ?_<;>intro hdQ
    ·have hl2:aY rest.f x<0:=of_decide_eq_true hdQ;obtain⟨s,hp,hI2⟩:=qri hx hin hl2 hI;refine A2 ?_;refine xg 0 0 ?_;refine A1 ?_;refine L9 3 0 ?_;refine L9 5 0 ?_;refine A2 ?_;refine UF ?_;refine Kr 46 (lC ⟨rest.f,x,rest.fo,true⟩) ?_;refine fJ [_,_] rfl rfl rfl (zo sm hsm q ⟨rest.f,x,rest.fo,true⟩ s hp hq (qH (by show eU rest.f<=_;omega) (by show eU x<=_;omega))) ?_;refine(Bl 21 [(0,_)]) (LP) (fun g4=>?_);refine mO (s:=21) (len:=o.length) (n2:=1) 4 6 (fun r1=>[_,_,_,_,⟨some r1.g,181,ai Hu (o++[((⟨rest.f,x,rest.fo,true⟩,s):Iv×Int)]),r1.n,true⟩,_,_]) qgo qbB rfl rfl rfl rfl rfl rfl rfl rfl rfl rfl rfl rfl (wC.length o) h3 h4 rfl (wC.one (((⟨rest.f,x,rest.fo,true⟩,s):Iv×Int))) ae (fun _=>congrArg (fun c=>_::_::_::_::aF.mk _ 181 c _ true::_) (rQ o ((⟨rest.f,x,rest.fo,true⟩,s):Iv×Int))) (fun r1=>?_);refine aP 49 (aB (some r1.g) 0 (o++[((⟨rest.f,x,rest.fo,true⟩,s):Iv×Int)]).length r1.cap) rfl kG ?_;refine A6 ?_;refine ql5 ?_;refine(Bl 21 [(0,_)]) (LP) (fun g5=>?_);refine mO (s:=21) (len:=(o++[((⟨rest.f,x,rest.fo,true⟩,s):Iv×Int)]).length) (n2:=1) 4 7 (fun r2=>[_,_,_,_,⟨some r2.g,181,ai Hu (o++[((⟨rest.f,x,rest.fo,true⟩,s):Iv×Int)])++Hu (((⟨x,x,false,false⟩,0):Iv×Int)),r2.n,true⟩,_,_,_]) qgo qbB rfl rfl rfl rfl rfl rfl rfl rfl rfl rfl rfl rfl (wC.length (o++[((⟨rest.f,x,rest.fo,true⟩,s):Iv×Int)])) (by rw[List.length_append];exact r1.h) r1.hn rfl (wC.one (((⟨x,x,false,false⟩,0):Iv×Int))) (by rw[List.length_append];show o.length+1+1<=_;omega) (fun _=>rfl) (fun r2=>?_);refine A4 ?_;refine L9 5 0 ?_;refine A1 ?_;refine Ss 3 ?_;refine A1 ?_;refine CP ?_;refine Ce ?_;exact Nl ⟨⟨k+1,⟨x,rest.t,true,rest.tp⟩,o++[((⟨rest.f,x,rest.fo,true⟩,s):Iv×Int)]++[((⟨x,x,false,false⟩,0):Iv×Int)],some r2.g,r2.n,r2.cap⟩,hlt,hI2,⟨hxs.2,hre.2.1,qH hxs.1 (Nat.le_trans (gW rest) hre.2.2)⟩,qmb,by rw[List.length_append];exact r2.h,r2.hn⟩ (hμ:=qa1) (ht:=⟨rfl,rfl,(aO rfl (congrArg (fun z=>aB (some r2.g) 0 z r2.cap) (show(o++[((⟨rest.f,x,rest.fo,true⟩,s):Iv×Int)]).length+1=(o++[((⟨rest.f,x,rest.fo,true⟩,s):Iv×Int)]++[((⟨x,x,false,false⟩,0):Iv×Int)]).length by simp))),rfl,rfl,rfl,rfl,trivial⟩) (hL:=(ay [some 0,some 1,some 2,some 3,some 4] ⟨pR,pR,pR,pR,⟨_,rfl,aV kH⟩,trivial⟩ rfl rfl))
    ·have hl2:¬aY rest.f x<0:=of_decide_eq_false hdQ;have hI2:=qrj hx hin hl2 hI;refine A5 ?_;refine ql5 ?_;refine(Bl 21 [(0,_)]) (LP) (fun g4=>?_);refine(Qa (s:=21) (len:=o.length) (n2:=1) 4 6 (fun r2=>[_,_,_,_,⟨some r2.g,181,ai Hu o++Hu (((⟨x,x,false,false⟩,0):Iv×Int)),r2.n,true⟩,_,_]) qgo qbB) (wC.length o) h3 h4 (wC.one (((⟨x,x,false,false⟩,0):Iv×Int))) (fun r2=>?_);refine A4 ?_;refine L9 5 0 ?_;refine A1 ?_;refine Ss 3 ?_;refine A1 ?_;refine CP ?_;refine Ce ?_;exact Nl ⟨⟨k+1,⟨x,rest.t,true,rest.tp⟩,o++[((⟨x,x,false,false⟩,0):Iv×Int)],some r2.g,r2.n,r2.cap⟩,hlt,hI2,⟨hxs.2,hre.2.1,qH hxs.1 (Nat.le_trans (gW rest) hre.2.2)⟩,qmb,by rw[List.length_append];exact r2.h,r2.hn⟩ (hμ:=qa1) (ht:=⟨rfl,rfl,(aO rfl (congrArg (fun z=>aB (some r2.g) 0 z r2.cap) (show(o).length+1=(o++[((⟨x,x,false,false⟩,0):Iv×Int)]).length by simp))),rfl,rfl,rfl,rfl,trivial⟩) (hL:=(ay [some 0,some 1,some 2,some 3,some 4] ⟨pR,pR,pR,pR,⟨_,rfl,aV kH⟩,trivial⟩ rfl rfl))
  ·have hge:k=(dG q).length:=lw;subst hge;refine A8 ?_;refine zO 3 0 ?_;refine Pc (xY rest hre.2.2 hre.1 hre.2.1) ?_;refine A3 ?_;refine Cd ?_ ?_<;>intro hcQ
   ·have hoe:ja rest=true:=qmc
    obtain⟨s,hp,hl⟩:=qda hoe hI;refine A2 ?_;refine xg 0 0 ?_;refine zO 3 0 ?_;refine Pc (zo sm hsm q rest s hp hq hre.2.2) ?_;refine(Bl 21 [(0,_)]) (LP) (fun g3=>?_);refine(Qa (s:=21) (len:=o.length) (n2:=1) 4 5 (fun r=>[_,_,_,_,⟨some r.g,181,ai Hu o++Hu ((rest,s)),r.n,true⟩,_]) qgo qbB) (wC.length o) h3 h4 (wC.one ((rest,s))) (fun r=>?_);refine qX ?_;refine bT rfl (ax rfl) (ax rfl) (fun w hL=>⟨⟨some r.g,r.n,r.cap,by rw[hl,List.length_append];exact r.h⟩,?_,hL.picks [some 4] ⟨⟨_,rfl,aV (by rw[rQ,show ai Hu l=_ from congrArg _ hl])⟩,trivial⟩ rfl rfl⟩);show Ending.returned (.tuple #[aB (some r.g) 0 _ r.cap,_])=Ending.returned (.tuple #[aB (some r.g) 0 l.length r.cap,_]);rw[hl,List.length_append];rfl
   ·have hoe:ja rest=false:=qmc
    have hl:=qdb hoe hI;refine lh ?_;refine bT rfl (ax rfl) (ax rfl) (fun w hL=>⟨⟨ob,oN,oc,by rw[hl];exact h3⟩,?_,hL.picks [some 4] ⟨⟨_,rfl,aV (by rw[show ai Hu l=_ from congrArg _ hl])⟩,trivial⟩ rfl rfl⟩);show Ending.returned (.tuple #[aB ob 0 _ oc,_])=Ending.returned (.tuple #[aB ob 0 l.length oc,_]);rw[hl]
end Go.Proofs.YtaffcpfhedadhaaGreatDoor
namespace Go.Via
open Go
def qde(x:Rl): -1<=sgR x∧sgR x<=1:=by
 have hs:∀q,dB q= -1∨dB q=0∨dB q=1:=fun q=>qb3
 have hm:∀{a b:Int},(a= -1∨a=0∨a=1)->(b= -1∨b=0∨b=1)->(a*b= -1∨a*b=0∨a*b=1):=fun h h'=>by
  rcases h with h|h|h<;>rcases h' with h'|h'|h'<;>simp[h,h']
 have hc:∀a b:Rat,mJ a b= -1∨mJ a b=0∨mJ a b=1:=fun a b=>by unfold mJ;(repeat' split)<;>simp
 have h1:sgR x= -1∨sgR x=0∨sgR x=1:=by
  unfold sgR pU
  split
  ·exact hs _
  ·split
   ·exact hm (hs _) (hs _)
   ·exact hm (hs _) (hc _ _)
 omega
def Rng(p:Iv×Int):Prop:= -1<=p.2∧p.2<=1
def Aj{sm:Rl->Rl->Option Rat}{q:Qd}{i:Iv}:∀{rs:List Rl} {rest:Iv} {o l:List (Iv×Int)},(∀p∈o,Rng p)->gG sm q i rs rest o=some l->∀p∈l,Rng p
 |[],rest,o,l,ho,h=>by
  by_cases e:ja rest=true
  ·obtain⟨s,hp,hl⟩:=qda (rs:=[]) e h;obtain⟨_,r,_,_,hs⟩:=F6 hp;subst hl;exact Ai ho (show-1<=s∧s<=1 by rw[hs];exact qde _)
  ·have hl:=qdb (rs:=[]) (by simpa using e) h;subst hl;exact ho
 |x::rs,rest,o,l,ho,h=>by
  by_cases hin:Jl i x=true
  ·by_cases hlt:aY rest.f x<0
   ·obtain⟨s,hp,h2⟩:=qri (rs:=x::rs) (k:=0) rfl hin hlt h;obtain⟨_,r,_,_,hs⟩:=F6 hp;exact Aj (rs:=rs) (Ai (Ai ho (show Rng ((⟨rest.f,x,rest.fo,true⟩,s):Iv×Int) from(show-1<=s∧s<=1 by rw[hs];exact qde _))) ⟨show(-1:Int)<=0 by omega,show(0:Int)<=1 by omega⟩) h2
   ·have h2:=qrj (rs:=x::rs) (k:=0) rfl hin hlt h;exact Aj (rs:=rs) (Ai ho ⟨show(-1:Int)<=0 by omega,show(0:Int)<=1 by omega⟩) h2
  ·have h2:=qrh (rs:=x::rs) (k:=0) rfl (by simpa using hin) h;exact Aj (rs:=rs) ho h2
def qpO{a b c:Bool}{s:Int}(h1: -1<=s)(h2:s<=1):(([.bool a,.bool b,.bool c]:List Value).drop (s+1).toNat).take 1=[.bool (nO a b c s)]:=by
 rcases(show s= -1∨s=0∨s=1 by omega) with rfl|rfl|rfl<;>rfl
def IC(w:Int->Bool):Bool->List (Iv×Int)->Bool
 |_,[]=>true
 |b,p::ps=> !(b&&w p.2)&&IC w (w p.2) ps
def X7{sm:Rl->Rl->Option Rat}{w:Int->Bool}{q:Qd}{i:Iv}{r:List Iv}(h:uy sm w q i=some r):∃l,gG sm q i (dG q) i []=some l∧r=oO w l [] false:=by
 unfold uy at h;rcases hs:gG sm q i (dG q) i [] with _|l
 ·rw[hs] at h;cases h
 ·rw[hs] at h;injection h with e;exact⟨l,rfl,e.symm⟩
section
variable{w:Int->Bool}{l:List (Iv×Int)}{k:Nat}{x:Iv×Int}{o:List Iv}{b:Bool}
def qrr(hx:l[k]? =some x)(hn:IC w b (l.drop k)=true):(b&&w x.2)=false∧IC w (w x.2) (l.drop (k+1))=true:=by
 rw[yK hx,IC,Bool.and_eq_true] at hn;have e:=hn.1;refine⟨?_,hn.2⟩
 revert e
 cases(b&&w x.2)<;>simp
def quk(hx:l[k]? =some x)(hw:w x.2=true)(hb:b=false):oO w (l.drop k) o b=oO w (l.drop (k+1)) (o++[x.1]) true:=by
 rw[yK hx,oO,if_pos hw,if_neg (by rw[hb];decide)]
def qwO(hx:l[k]? =some x)(hw:w x.2=false):oO w (l.drop k) o b=oO w (l.drop (k+1)) o false:=by
 rw[yK hx,oO,if_neg (by rw[hw];decide)]
def qul:oO w (l.drop l.length) o b=o:=by rw[List.drop_length,oO]
end
end Go.Via
namespace Go.Proofs.YtaffcpfhedadhaaGreatDoor
open Go Go.RowKit Go.Via
def x8(sm:Rl->Rl->Option Rat)(hsm:∀x y r,sm x y=some r->aG Tryz.prog 235 #[RV x,RV y] (Q r))(q:Qd)(i:Iv)(wn wz wp:Bool)(r:List Iv)(h:uy sm (nO wn wz wp) q i=some r)(hno:∀l,gG sm q i (dG q) i []=some l->IC (nO wn wz wp) false l=true)(hf:bK i.f=true)(ht:bK i.t=true)(hoi:ja i=true)(hrt:bQ Tryz.prog 170 [] [uf q] (SR (dG q).length) (fun z=> .tuple #[z.v,.int .i64 0]) (fun z=>[⟨z.b,38,ai kQ (dG q),z.n,true⟩]))(hrz:∀r∈dG q,eU r<=1000∧bK r=true)(hrl:(dG q).length<=2)(hln:∀l,gG sm q i (dG q) i []=some l->l.length<=100)(hq:ve q<=10000:=by omega)(hi:gV i<=1000:=by omega):bQ Tryz.prog 76 [] [uf q,lC i,.bool wn,.bool wz,.bool wp] (SR r.length) (fun z=> .tuple #[z.v,.int .i64 0]) (fun z=>[⟨z.b,61,ai aZ r,z.n,true⟩]):=by
 refine⟨ak,fun w hL0=>?_⟩;obtain⟨l,hsg,hr⟩:=X7 h;have hll:=hln l hsg;have hrg:=Aj bz hsg;refine cB5 75 Tryz.func76 hL0 ?_;refine kE fun g0=>?_;refine Bp 20 (fun g1=>?_);refine A6 ?_;refine xg 0 0 ?_;refine zO 1 0 ?_;refine(Sc []) (IB sm hsm q i l hsg hf ht hoi hrt hrz hrl hq hi) (fun z=>?_);obtain⟨lb,lN,lc,hlc⟩:=z;refine oH ?_;refine(Bu [(0,_),(1,_),(2,_)]) (qng) ?_;refine Al 3 qxz (fun g2=>?_);refine Ss 3 ?_;refine A21 ?_;refine El (ι:={z:Nat×Bool×List Iv×Option Nat×Nat×Nat // z.1<=l.length∧oO (nO wn wz wp) l [] false=oO (nO wn wz wp) (l.drop z.1) z.2.2.1 z.2.1∧IC (nO wn wz wp) z.2.1 (l.drop z.1)=true∧z.2.2.1.length<=z.1∧z.2.2.1.length<=z.2.2.2.2.2∧z.2.2.2.2.2*20<=z.2.2.2.2.1}) (fun⟨⟨k,bef,o,ob,oN,oc⟩,hk,hI,hna,ho,h3,h4⟩=>([(13,.int .i64 0),(14,dA g2),(15,aB ob 0 o.length oc),(16,.bool bef),(30,aB lb 0 l.length lc),(31,bF (l.length)),(32,bF k)],[⟨lb,181,ai Hu l,lN,true⟩,⟨some g2,130,[.bool wn,.bool wz,.bool wp],3,true⟩,⟨ob,61,ai aZ o,oN,true⟩],l.length-k)) ⟨⟨0,false,[],none,0,0⟩,Nat.zero_le _,rfl,hno l hsg,Nat.le_refl _,Nat.le_refl _,bz⟩ ?_ (hL:=(ay [some 2,some 3,none] ⟨pR,pR,⟨rfl,rfl,rfl⟩,trivial⟩ rfl rfl));rintro⟨⟨k,bef,o,ob,oN,oc⟩,hk,hI,hna,ho,h3,h4⟩;(try dsimp only);replace hk:k<=l.length:=hk;replace hI:oO (nO wn wz wp) l [] false=oO (nO wn wz wp) (l.drop k) o bef:=hI;replace hna:IC (nO wn wz wp) bef (l.drop k)=true:=hna;replace ho:o.length<=k:=ho;replace h3:o.length<=oc:=h3;replace h4:oc*20<=oN:=h4;refine A6 ?_;refine Cd ?_ ?_<;>intro haQ
 ·have hlt:k<l.length:=iE;obtain⟨x,hx⟩:∃x,l[k]? =some x:=⟨l[k],List.getElem?_eq_getElem hlt⟩;obtain⟨hs1,hs2⟩:=hrg x (List.mem_of_getElem? hx);refine dK 0 rfl (wC.ne au ae) (fun hbs=>?_);obtain⟨gl,hgl⟩:=Option.isSome_iff_exists.1 hbs;replace hgl:lb=some gl:=hgl;subst hgl;refine A6 ?_;refine aJ 0 ((k)*21) qgo qgg rfl rfl rfl rfl rfl ae ae (wC.ne au ae) (by show 0+Int.toNat _*21=_;omega) ?_;refine aT (v:=SgV x) 0 ((k)*21) _ rfl rfl rfl rfl qgg (wC.sub hx 0 21 au) rfl au rfl ?_;refine Al 21 qu7 (fun g3=>?_);refine Ss 3 ?_;refine A6 ?_;refine(Aq (x.2+1)) uw ?_;refine(Iz ((x.2+1).toNat) qxJ Ya) ?_;refine aT (v:= .bool ((nO wn wz wp) x.2)) 1 ((x.2+1).toNat) _ rfl rfl rfl rfl Ya (qpO hs1 hs2) rfl au rfl ?_;refine A9 ?_;refine Rs 43 ?_ ?_<;>intro hbQ
  ·have hw:(nO wn wz wp) x.2=true:=hbQ;have hbf:bef=false:=by have e:=(qrr hx hna).1;rw[hw] at e;simpa using e
   refine A5 ?_;refine Cd ?_ ?_<;>intro hcQ
   ·exact absurd hcQ (by rw[hbf];decide)
   ·refine A6 ?_;refine Cd ?_ ?_<;>intro hdQ
    ·refine A3 ?_;refine zO 3 0 ?_;refine(Bl 20 [(0,_)]) (IX) (fun g4=>?_);refine(Qa (s:=20) (len:=o.length) (n2:=1) 2 4 (fun r=>[_,_,⟨some r.g,61,ai aZ o++aZ (x.1),r.n,true⟩,_,_]) Yb P7) (dw.length o) h3 h4 (dw.one (x.1)) (fun r=>?_);refine qX ?_;refine Ce ?_;exact Nl ⟨⟨k+1,true,o++[x.1],some r.g,r.n,r.cap⟩,hlt,by rw[hI];exact quk hx hw hbf,qmd,qme,jT,r.hn⟩ (hμ:=qmf) (ht:=⟨rfl,rfl,(aO rfl kG),(aO rfl (congrArg Value.bool hw)),rfl,rfl,rfl,trivial⟩) (hL:=(ay [some 0,some 1,some 2] ⟨pR,pR,⟨_,rfl,aV kH⟩,trivial⟩ rfl rfl))
    ·exact absurd hdQ (by rw[hw];decide)
  ·have hw:(nO wn wz wp) x.2=false:=hbQ;refine oH ?_;refine Cd ?_ ?_<;>intro hcQ
   ·exact absurd hcQ (by rw[hw];decide)
   ·refine lh ?_;refine Ce ?_;exact Nl ⟨⟨k+1,false,o,ob,oN,oc⟩,hlt,by rw[hI];exact qwO hx hw,qmd,Nat.le_succ_of_le ho,h3,h4⟩ (hμ:=qmf) (ht:=⟨rfl,rfl,rfl,(aO rfl (congrArg Value.bool hw)),rfl,rfl,rfl,trivial⟩) (hL:=fE.auto)
 ·have hge:k=l.length:=iV;subst hge;have hl:r=o:=hr.trans (hI.trans qul);refine FH ?_;refine bT rfl (ax rfl) (ax rfl) (fun w hL=>⟨⟨ob,oN,oc,by rw[hl];exact h3⟩,?_,hL.picks [some 2] ⟨⟨_,rfl,aV (by rw[show ai aZ r=_ from congrArg _ hl])⟩,trivial⟩ rfl rfl⟩);show Ending.returned (.tuple #[aB ob 0 _ oc,_])=Ending.returned (.tuple #[aB ob 0 r.length oc,_]);rw[hl]
end Go.Proofs.YtaffcpfhedadhaaGreatDoor
