/-
  Part 34 (chapter 32): lemmas, walks. Each theorem states its own conditions.
-/
import Derived.Shelf.SlSortCmp.WholeK
import Derived.Shelf.SlSortCmp.NoneTotal
import Derived.Lib.Repeat
import Derived.Sort.Grow
import Derived.Sort.EncStr
import Derived.Lib.SliceRun
import Derived.Test.YtaffcpfhedadhaaGreatDoorA33
set_option linter.all false
set_option maxRecDepth 20000
set_option maxHeartbeats 20000000
section
variable{P Q:Prop}{T:Type}{R:T->Prop}
def qrc(h:P:=by refine A4 ?_;refine L16 4 20 ?_;refine L9 5 0 ?_;refine LZ 197 (.agg #[]) (.agg #[]) [_,_] rfl rfl rfl (fun _=>ak) rfl (O4 x.f x.i.f) ?_;refine A1 ?_;refine Ss 4 ?_;refine A4 ?_;refine L36 4 0 ?_;refine Kr 87 (PUV ⟨x.i,jE x.f x.i.f⟩) ?_;refine(Bl 36 [(0,_)]) (zB) (fun g2=>?_);refine(Qa (s:=36) (len:=o.length) (n2:=1) 3 6 (fun r=>[_,_,_,⟨some r.g,201,ai aK o++aK (⟨x.i,jE x.f x.i.f⟩),r.n,true⟩,_,_,_]) AQ JW) (bu.length o) h3 h4 (bu.one (⟨x.i,jE x.f x.i.f⟩)) (fun r=>?_);refine A6 ?_;refine kM ?_;exact Nl ⟨⟨i+1,o++[⟨x.i,jE x.f x.i.f⟩],some r.g,r.n,r.cap⟩,hlt,by rw[hI,Dj hx,hst,hz0,if_neg (by rw[hzv];decide)],qlg,jT,r.hn,qlp hoz (qpx hxf hxi1)⟩ (hμ:=JE) (ht:=⟨rfl,(aO rfl kG),rfl,rfl,rfl,rfl,trivial⟩) (hL:=(ay [some 0,some 1,some 2,some 3] ⟨pR,pR,pR,⟨_,rfl,aV kH⟩,trivial⟩ rfl rfl))):=h
def qrd(h:P:=by refine A2 ?_;refine L36 4 0 ?_;refine Kr 160 (PUV ⟨⟨x.i.f,x.i.t,z,x.i.tp⟩,x.f⟩) ?_;refine(Bl 36 [(0,_)]) (zB) (fun g2=>?_);refine(Qa (s:=36) (len:=o.length) (n2:=1) 3 6 (fun r=>[_,_,_,⟨some r.g,201,ai aK o++aK (⟨⟨x.i.f,x.i.t,z,x.i.tp⟩,x.f⟩),r.n,true⟩,_,_,_]) AQ JW) (bu.length o) h3 h4 (bu.one (⟨⟨x.i.f,x.i.t,z,x.i.tp⟩,x.f⟩)) (fun r=>?_);refine A6 ?_;refine kM ?_;exact Nl ⟨⟨i+1,o++[⟨⟨x.i.f,x.i.t,z,x.i.tp⟩,x.f⟩],some r.g,r.n,r.cap⟩,hlt,by rw[hI,Dj hx,hst,hz],qlg,jT,r.hn,qlp hoz (by show jI x.f<=_;omega)⟩ (hμ:=JE) (ht:=⟨rfl,(aO rfl kG),rfl,rfl,rfl,rfl,trivial⟩) (hL:=(ay [some 0,some 1,some 2,some 3] ⟨pR,pR,pR,⟨_,rfl,aV kH⟩,trivial⟩ rfl rfl))):=h
def qre(q:Q)(h:aj Q->P:=by intro q_;refine A2 ?_;refine qaE ?_;refine aJ 2 ((i-1)*36) AQ BD rfl rfl rfl rfl rfl ae ae (bu.ne au ae) wH ?_;refine Fg ((i-1)*36) 0 ?_;exact q_.qq):=h ⟨q⟩
def qrf(h:P:=by refine A3 ?_;refine rG ?_;refine qla ?_;refine Fg ((i+1)*36) 20 ?_;refine aT (v:=AU n.f) 2 ((i+1)*36+20) _ rfl rfl rfl rfl qdz (bu.sub hn 20 16 au) rfl au rfl ?_;refine A1 ?_;refine L16 4 20 ?_;refine L9 5 0 ?_;refine qaD ?_;refine A1 ?_;refine LZ 197 (.agg #[]) (.agg #[]) [_,_,_] rfl rfl rfl (fun _=>ak) rfl (Iq n.f x.f x.i.f) ?_;refine A4 ?_;exact Ni ⟨qj n.f x.f x.i.f,qyx hn hnf⟩ [0,1,2,3,4,5]):=h
def XQ(h:P:=by refine E0 ?_;exact congrArg (fun b=>Ending.returned (.int .i64 b)) qjI):=h
def qkV(h:P:=by
 refine A4 ?_;refine Cd ?_ ?_<;>intro hgQ
 ·exact qt2
 ·exact qt3):=h
def qt1(h:P:=by subst hd;exact qws hp au au):=h
def qt2(h:P:=by
 have hhd:tX o x.i.f=false:=U4
 refine A3 ?_;refine Ss 4 ?_;refine A2 ?_;exact Ni ⟨false,qt6 hpr hpi hpf hhd⟩ [0,1,2,3,4,5]):=h
def qt3(h:P:=by
 have hhd:tX o x.i.f=true:=U4
 refine A2 ?_;exact Ni ⟨x.i.fo,qaK hpr (fun e=>by rw[hhd] at e;cases e.2.2)⟩ [0,1,2,3,4,5]):=h
def qkW(h:P:=by have hpf:p.i.f≠x.i.f:=of_decide_eq_false hfQ;refine lh ?_;exact Ni ⟨x.i.fo,qaK hpr (fun e=>hpf e.2.1)⟩ [0,1,2,3,4,5]):=h
def qkX(h:P:=by
 have hip:i=0:=qaH
 refine A30 ?_;exact Ni ⟨x.i.fo,qwn (by rw[hip];rfl)⟩ [0,1,2,3,4,5]):=h
def qkY(h:P:=by have hpi:dU p.i=false:=heQ;refine A21 ?_;exact Ni ⟨x.i.fo,qaK hpr (fun e=>by rw[hpi] at e;cases e.1)⟩ [0,1,2,3,4,5]):=h
def qkZ(h:P:=by refine kM ?_;exact Nl ⟨i+1,hlt⟩ (hμ:=nJ) (hL:=fE.auto)):=h
def qaC(q:Q)(h:aj Q->P:=by intro q_;refine(Aq ((o.length:Int)-1)) uw ?_;refine aJ 3 ((o.length-1)*36) AQ BD rfl rfl rfl rfl rfl ae ae (bu.ne au ae) wH ?_;exact q_.qq):=h ⟨q⟩
def qk0(q:Q)(h:aj Q->P:=by intro q_;refine A2 ?_;refine rG ?_;refine qla ?_;refine Fg ((i+1)*36) 0 ?_;refine Fg ((i+1)*36) 0 ?_;refine aT (v:=RV n.i.f) 2 ((i+1)*36) _ rfl rfl rfl rfl jk (bu.sub hn 0 9 au) rfl au rfl ?_;refine L9 5 0 ?_;refine zZ ?_;exact q_.qq):=h ⟨q⟩
def qk1(q:∀x,R x)(h:aj (∀x,R x)->P:=by intro q_;refine A7 ?_;refine L9 3 0 ?_;refine A2 ?_;refine Ld 3 9 [_,_,_,_,_,_,_,_,_] jk ?_;refine UF ?_;refine Kr 35 (lC ⟨x.i.f,x.i.t,true,true⟩) ?_;refine U0 ?_;refine(Bu [(0,_),(1,_)]) (LM) ?_;refine Kr 38 (PUV (nP x)) ?_;refine(Bl 36 [(0,_)]) (zB) (fun g2=>?_);exact q_.qq g2):=h ⟨q⟩
def qk2(q:Q)(h:aj Q->P:=by intro q_;refine A2 ?_;refine(Aq ((l.length:Int)-1)) uw ?_;refine aJ 0 ((l.length-1)*36) AQ BD rfl rfl rfl rfl rfl ae ae (bu.ne au ae) wH ?_;refine Fg ((l.length-1)*36) 0 ?_;exact q_.qq):=h ⟨q⟩
def qk3(h:P:=by refine aH rfl (ax rfl) (fun w hL=>⟨(),?_,hL.pk []⟩);rw[qeT hu,hut];rfl):=h
def qk4(h:P:=by refine A18 ?_;exact Ni ⟨false,by rw[qlo hn (fun e=>hnf e.1)];rfl⟩ [0,1,2,3,4,5]):=h
def qt4(h:P:=by unfold iR;rw[h1,h2,h3];rfl):=h
def qk5(h:P:=by refine VT rfl (fun w hL=>⟨(),?_,hL.pk [some 0]⟩);exact rfl):=h
def qk6(h:P:=by refine A29 ?_;exact Ni ⟨false,by rw[qwo hn];rfl⟩ [0,1,2,3,4,5]):=h
def qaD(q:Q)(h:aj Q->P:=by intro q_;refine Ud rfl rfl rfl _ (fun _=>rfl) ?_;refine WS rfl rfl rfl (fun _=>ak) ?_;exact q_.qq):=h ⟨q⟩
def qk7(q:Q)(h:aj Q->P:=by intro q_;refine Fg ((o.length-1)*36) 20 ?_;refine aT (v:=AU b.f) 3 ((o.length-1)*36+20) _ rfl rfl rfl rfl qdz (bu.sub hbl 20 16 au) rfl au rfl ?_;refine A1 ?_;refine L16 4 20 ?_;exact q_.qq):=h ⟨q⟩
def qk8(q:Q)(h:aj Q->P:=by intro q_;refine qre ?_;refine aT (v:=lC p.i) 2 ((i-1)*36) _ rfl rfl rfl rfl o7 (bu.sub hp 0 20 au) rfl au rfl ?_;refine Pc (jm p.i) ?_;refine A2 ?_;exact q_.qq):=h ⟨q⟩
def U0(q:Q)(h:aj Q->P:=by intro q_;refine A1 ?_;refine Ld 3 20 [_,_,_,_,_,_,_,_,_,_,_,_,_,_,_,_] qdz ?_;exact q_.qq):=h ⟨q⟩
def qk9(q:Q)(h:aj Q->P:=by intro q_;refine qre ?_;refine Fg ((i-1)*36) 0 ?_;refine aT (v:=RV p.i.f) 2 ((i-1)*36) _ rfl rfl rfl rfl jk (bu.sub hp 0 9 au) rfl au rfl ?_;exact q_.qq):=h ⟨q⟩
def qla(q:Q)(h:aj Q->P:=by intro q_;refine aJ 2 ((i+1)*36) AQ BD rfl rfl rfl rfl rfl ae ae (bu.ne au ae) wH ?_;exact q_.qq):=h ⟨q⟩
def qaE(q:Q)(h:aj Q->P:=by intro q_;refine(Aq ((i:Int)-1)) uw ?_;exact q_.qq):=h ⟨q⟩
def qaF(q:Q)(h:aj Q->P:=by intro q_;refine L4 0 8 ?_;refine L4 1 0 ?_;refine mM rfl rfl rfl rfl qsh (qsk _ _) ?_;exact q_.qq):=h ⟨q⟩
def qaG(q:Q)(h:aj Q->P:=by intro q_;refine Fg ((o.length-1)*36) 0 ?_;refine Fg ((o.length-1)*36) 19 ?_;exact q_.qq):=h ⟨q⟩
def U1(h:P:=by exact qt4):=h
def qlb(h:P:=by show(0:Int)<=((s.x%64:Nat):Int);omega):=h
def qlc(h:P:=by show(0:Int)<=((s.y%64:Nat):Int);omega):=h
def U2(h:P:=by have e:=of_decide_eq_false haQ;omega):=h
def qld(h:P:=by have e:=of_decide_eq_false hcQ;omega):=h
def U3(h:P:=by have e:=of_decide_eq_true hdQ;omega):=h
def qaH(h:P:=by have e:=of_decide_eq_false hdQ;omega):=h
def qle(h:P:=by rw[hI,Dj hx,hst,hz0,if_pos hzv]):=h
def JE(h:P:=by show(aC l).length-(i+1)<(aC l).length-i;omega):=h
def qaI(h:P:=by rw[qpE];exact ha):=h
def JF(h:P:=by exact qt1):=h
def qaJ(h:P:=by have e:=of_decide_eq_true haQ;omega):=h
def qlf(h:P:=by exact(congrArg some (qv4 fZ))):=h
def U4(h:P:=by have e:=hgQ;simpa using e):=h
def qlg(h:P:=by rw[List.length_append];exact Nat.succ_le_succ hoi):=h
end
namespace Go.Via
open Go
instance{n s:Nat}:Nonempty (OR n s):=⟨⟨none,n*s,n,Nat.le_refl _,Nat.le_refl _⟩⟩
theorem rY{l:List PU}{i:Nat}{x:PU}(hx:l[i]? =some x):aC (l.take i)++iR x=aC (l.take (i+1)):=by
 rw[<-fH hx];unfold aC;rw[List.flatMap_append];simp
def Ah(t:Rl)(f:Ln):PU:=⟨⟨t,t,false,false⟩,f⟩
def nP(x:PU):PU:=⟨⟨x.i.f,x.i.t,true,true⟩,x.f⟩
theorem qlh{x:PU}(h1:x.i.fo=false)(h2:dU x.i=true):iR x=[Ah x.i.f x.f]:=by unfold iR;rw[h1,h2];rfl
theorem qli{x:PU}(h1:x.i.fo=false)(h2:dU x.i=false)(h3:x.i.tp=false):iR x=[Ah x.i.f x.f,nP x,Ah x.i.t x.f]:=U1
theorem qlj{x:PU}(h1:x.i.fo=false)(h2:dU x.i=false)(h3:x.i.tp=true):iR x=[Ah x.i.f x.f,nP x]:=U1
theorem qlk{x:PU}(h1:x.i.fo=true)(h2:dU x.i=true):iR x=[]:=by unfold iR;rw[h1,h2];rfl
theorem qll{x:PU}(h1:x.i.fo=true)(h2:dU x.i=false)(h3:x.i.tp=false):iR x=[nP x,Ah x.i.t x.f]:=U1
theorem qlm{x:PU}(h1:x.i.fo=true)(h2:dU x.i=false)(h3:x.i.tp=true):iR x=[nP x]:=U1
theorem qeT{l:List PU}{u:PU}{t:Rl}(h:l[l.length-1]? =some u):tX l t=(decide (u.i.t=t)&& !u.i.tp):=by
 unfold tX;rw[List.getLast?_eq_getElem?,h]
theorem qeU{l:List PU}{t:Rl}(h:¬0<l.length):tX l t=false:=by
 have:l=[]:=List.eq_nil_of_length_eq_zero ae;subst this;rfl
def qeV{l:List PU}{t:Rl}(h:¬0<l.length):uV l t=none:=by
 have:l=[]:=List.eq_nil_of_length_eq_zero ae;subst this;rfl
def qpt{l:List PU}{u:PU}{t:Rl}(h:l[l.length-1]? =some u)(h1:u.i.t≠t):uV l t=none:=by
 unfold uV;rw[List.getLast?_eq_getElem?,h];dsimp only;rw[if_neg fun e=>h1 e.1]
def qpu{l:List PU}{u:PU}{t:Rl}(h:l[l.length-1]? =some u)(h1:dU u.i=true):uV l t=none:=by
 unfold uV;rw[List.getLast?_eq_getElem?,h];dsimp only;rw[if_neg fun e=>by rw[e.2] at h1;cases h1]
def qpv{l:List PU}{u:PU}{t:Rl}(h:l[l.length-1]? =some u)(h1:u.i.t=t)(h2:dU u.i=false):uV l t=some u:=by
 unfold uV;rw[List.getLast?_eq_getElem?,h];dsimp only;rw[if_pos ⟨h1,h2⟩]
def qln{l:List PU}{u:PU}{t:Rl}(h:uV l t=some u):l[l.length-1]? =some u∧u.i.t=t∧dU u.i=false:=by
 obtain⟨h1,h2⟩:=y5 h;rw[List.getLast?_eq_getElem?] at h1;exact⟨h1,h2⟩
def bfP(ob:Option Nat)(n:Nat):Option PU->Option Addr
 |none=>none
 |some _=>some ⟨ob.getD 0,(n-1)*36,none⟩
def pg(A:List PU):Nat->Option PU
 |0=>none
 |i+1=>A[i]?
def nrm(A:List PU)(i:Nat)(o:List PU):List PU:=wo (pg A i) o (A.drop i)
theorem Dj{A:List PU}{i:Nat}{x:PU}{o:List PU}(hx:A[i]? =some x):nrm A i o=nrm A (i+1) (jV o (pg A i) x A[i+1]?):=by
 unfold nrm;rw[wS hx];show wo (some x) (jV o (pg A i) x (A.drop (i+1)).head?) (A.drop (i+1))=_;rw[List.head?_drop];show _=wo (A[i]?) _ _;rw[hx]
def qpw{A o:List PU}:nrm A A.length o=o:=by unfold nrm;rw[List.drop_length];cases pg A A.length<;>rfl
theorem XR{o:List PU}{u v:PU}(h:o[o.length-1]? =some u):o.set (o.length-1) v=jb o v:=by
 have hne:o≠[]:=fun e=>by rw[e] at h;simp at h
 have e:o=o.dropLast++[u]:=by
  have h2:o.getLast? =some u:=(by rw[List.getLast?_eq_getElem?];exact h);exact ql h2
 unfold jb;rw[e];simp
def Dk(o:List PU)(prev:Option PU)(x:PU):Bool:=match prev with
 |some p=>if dU p.i=true∧p.i.f=x.i.f∧tX o x.i.f=false then false else x.i.fo
 |none=>x.i.fo
section
variable{o:List PU}{prev next:Option PU}{x b:PU}
theorem qys(hi:dU x.i=false)(hb:uV o x.i.f=some b)(h1:b.i.tp=false)(h2:b.f=x.f):jV o prev x next=jb o ⟨⟨b.i.f,x.i.t,b.i.fo,true⟩,b.f⟩:=by
 unfold jV;rw[hi,hb];dsimp only;rw[if_pos ⟨h1,h2⟩]
def qwm(hi:dU x.i=false)(hb:uV o x.i.f=some b)(h:¬(b.i.tp=false∧b.f=x.f)):jV o prev x next=o++[⟨⟨x.i.f,x.i.t,Dk o prev x,x.i.tp⟩,x.f⟩]:=by
 unfold jV;rw[hi,hb];dsimp only;rw[if_neg h];rfl
def qyt(hi:dU x.i=false)(hb:uV o x.i.f=none):jV o prev x next=o++[⟨⟨x.i.f,x.i.t,Dk o prev x,x.i.tp⟩,x.f⟩]:=by
 unfold jV;rw[hi,hb];rfl
theorem qyu(hi:dU x.i=true)(hb:uV o x.i.f=some b)(h:qj b.f x.f x.i.f=true):jV o prev x next=jb o ⟨⟨b.i.f,b.i.t,b.i.fo,false⟩,b.f⟩:=by
 unfold jV;rw[hi,hb];dsimp only;rw[if_pos h]
def AL(o:List PU)(next:Option PU)(x:PU):List PU:=match next with
 |some n=>if n.i.f=x.i.f∧qj n.f x.f x.i.f=true then o else o++[⟨x.i,jE x.f x.i.f⟩]
 |none=>o++[⟨x.i,jE x.f x.i.f⟩]
def qyv(hi:dU x.i=true)(hb:uV o x.i.f=some b)(h:qj b.f x.f x.i.f=false):jV o prev x next=AL o next x:=by
 unfold jV;rw[hi,hb];dsimp only;rw[if_neg VW];rfl
def qyw(hi:dU x.i=true)(hb:uV o x.i.f=none):jV o prev x next=AL o next x:=by
 unfold jV;rw[hi,hb];rfl
def qwn(h:prev=none):Dk o prev x=x.i.fo:=by rw[h];rfl
def qaK{p:PU}(h:prev=some p)(h1:¬(dU p.i=true∧p.i.f=x.i.f∧tX o x.i.f=false)):Dk o prev x=x.i.fo:=by
 rw[h];unfold Dk;dsimp only;rw[if_neg h1]
def qt6{p:PU}(h:prev=some p)(h1:dU p.i=true)(h2:p.i.f=x.i.f)(h3:tX o x.i.f=false):Dk o prev x=false:=by
 rw[h];unfold Dk;dsimp only;rw[if_pos ⟨h1,h2,h3⟩]
theorem qwo(h:next=none):AL o next x=o++[⟨x.i,jE x.f x.i.f⟩]:=by rw[h];rfl
theorem qt7{n:PU}(h:next=some n)(h1:n.i.f=x.i.f)(h2:qj n.f x.f x.i.f=true):AL o next x=o:=by rw[h];unfold AL;dsimp only;rw[if_pos ⟨h1,h2⟩]
theorem qlo{n:PU}(h:next=some n)(h1:¬(n.i.f=x.i.f∧qj n.f x.f x.i.f=true)):AL o next x=o++[⟨x.i,jE x.f x.i.f⟩]:=by rw[h];unfold AL;dsimp only;rw[if_neg h1]
end
def qyx{o:List PU}{next:Option PU}{x n:PU}(h:next=some n)(h1:n.i.f=x.i.f):AL o next x=if qj n.f x.f x.i.f=true then o else o++[⟨x.i,jE x.f x.i.f⟩]:=by
 cases hs:qj n.f x.f x.i.f
 ·rw[qlo h (fun e=>by rw[hs] at e;cases e.2)];rfl
 ·rw[qt7 h h1 hs];rfl
def XU{A:List PU}{i:Nat}{p:PU}(hi:0<i)(hp:A[i-1]? =some p):pg A i=some p:=by
 obtain⟨j,rfl⟩:∃j,i=j+1:=⟨i-1,ae⟩;exact hp
def qeW{S:Rl->Prop}{ρ:Rl->Int}(T:dM S ρ){l:List PU}(hs:nR ρ l)(he:Go.Via.Ends S l){i:Nat}{u x:PU}(hi:0<i)(hu:l[i-1]? =some u)(hx:l[i]? =some x):Us u.i x.i=true:=by
 obtain⟨h1,rfl⟩:=List.getElem?_eq_some_iff.1 hu;obtain⟨h2,rfl⟩:=List.getElem?_eq_some_iff.1 hx;have:=List.pairwise_iff_getElem.1 hs.1 (i-1) i h1 h2 ae;exact(OJ T (he _ (List.getElem_mem h1)).2 (he _ (List.getElem_mem h2)).1).2 this
def Pq{l:List PU}{a b:Nat}(hz:∀u∈l,gV u.i<=a∧jI u.f<=b):∀x∈aC l,gV x.i<=a∧jI x.f<=b:=fun x hx=>by
 obtain⟨u,hu,hx⟩:=List.mem_flatMap.1 hx;obtain⟨h1,h2⟩:=hz u hu;have h3:=ig u.i;have h4:=gW u.i;unfold iR at hx;rcases List.mem_append.1 hx with hx|hx
 ·split at hx
  ·cases hx
  ·rw[List.mem_singleton] at hx;subst hx;exact⟨qH (Nat.le_trans h3 h1) (Nat.le_trans h3 h1),h2⟩
 ·split at hx
  ·cases hx
  ·rcases List.mem_cons.1 hx with hx|hx
   ·subst hx;exact⟨qH (Nat.le_trans h3 h1) (Nat.le_trans h4 h1),h2⟩
   ·split at hx
    ·cases hx
    ·rw[List.mem_singleton] at hx;subst hx;exact⟨qH (Nat.le_trans h4 h1) (Nat.le_trans h4 h1),h2⟩
def qaL{o:List PU}{k n:Nat}{i:Iv}{f:Ln}(h:∀u∈o,jI u.f<=n)(hf:jI f<=n):∀u∈o.set k ⟨i,f⟩,jI u.f<=n:=fun u hu=>by
 rcases List.mem_or_eq_of_mem_set hu with h1|h1
 ·exact h u h1
 ·subst h1;exact hf
def qlp{o:List PU}{n:Nat}{i:Iv}{f:Ln}(h:∀u∈o,jI u.f<=n)(hf:jI f<=n):∀u∈o++[⟨i,f⟩],jI u.f<=n:=fun u hu=>by
 rcases List.mem_append.1 hu with h1|h1
 ·exact h u h1
 ·rw[List.mem_singleton] at h1;subst h1;exact hf
def qpx{f:Ln}{t:Rl}(hf:jI f<=1000)(ht:eU t<=1000):jI (jE f t)<=8000:=by
 have h3:=pM t;have a0:=sK f;have a1:=sO f;have a2:=sQ f;have a3:=sS f;have z:=y9;have h1:bY (rE (qx f) t.p)<=5000:=by
  have h:=yH (qx f) t.p;have e:bY (qx f).c2<=2:=z;have e0:bY (qx f).c0=bY f.x0:=rfl;have e1:bY (qx f).c1=bY f.x1:=rfl;omega
 have h2:bY (rE (qy f) t.p)<=5000:=by
  have h:=yH (qy f) t.p;have e:bY (qy f).c2<=2:=z;have e0:bY (qy f).c0=bY f.y0:=rfl;have e1:bY (qy f).c1=bY f.y1:=rfl;omega
 unfold jE
 split
 ·show max (max (bY (rE (qx f) t.p)) (bY 0)) (max (bY (rE (qy f) t.p)) (bY 0))<=8000;omega
 ·omega
end Go.Via
namespace Go.Proofs.YtaffcpfhedadhaaGreatDoor
open Go
def qpy:Tryz.prog.underlying 242=some (.pointer 201):=ak
end Go.Proofs.YtaffcpfhedadhaaGreatDoor
namespace Go.Via
open Go
def jZ(s:ug):List Value:=[.int .u8 (s.time:Nat),.int .u8 (s.x:Nat),.int .u8 (s.y:Nat),.int .u8 (s.kind:Nat)]
def SpV(s:ug):Value:= .agg #[.int .u8 (s.time:Nat),.int .u8 (s.x:Nat),.int .u8 (s.y:Nat),.int .u8 (s.kind:Nat)]
theorem jU:iY ug jZ 4:=⟨fun _=>rfl,fun x v hv=>List.all_eq_true.1 (show(jZ x).all (·.oneCell')=true from rfl) v hv⟩
def okS(s:ug):Prop:=s.time<256∧s.x<256∧s.y<256∧s.kind<256
def JG(s:AV):List Value:=[.bool (decide ((s.t:Rat).num<0)),.string (bH (s.t:Rat).num.natAbs),.bool false,.string (dm (s.t:Rat)),.bool (decide ((s.x:Rat).num<0)),.string (bH (s.x:Rat).num.natAbs),.bool false,.string (dm (s.x:Rat)),.bool (decide ((s.y:Rat).num<0)),.string (bH (s.y:Rat).num.natAbs),.bool false,.string (dm (s.y:Rat))]
def SmV(s:AV):Value:= .agg #[.bool (decide ((s.t:Rat).num<0)),.string (bH (s.t:Rat).num.natAbs),.bool false,.string (dm (s.t:Rat)),.bool (decide ((s.x:Rat).num<0)),.string (bH (s.x:Rat).num.natAbs),.bool false,.string (dm (s.x:Rat)),.bool (decide ((s.y:Rat).num<0)),.string (bH (s.y:Rat).num.natAbs),.bool false,.string (dm (s.y:Rat))]
def iY.subP{α:Type}{c:α->List Value}{k:Nat}(h:iY α c k)(pre:List Value){l:List α}{i:Nat}{x:α}(hx:l[i]? =some x)(o n:Nat)(hn:o+n<=k):((pre++ai c l).drop (pre.length+(i*k+o))).take n=((c x).drop o).take n:=by
 rw[List.drop_length_add_append];exact h.sub hx o n hn
def Ef(last:AV)(s:ug):AV:=⟨last.t+1+(s.time%8:Nat),(s.x%64:Nat),(s.y%64:Nat)⟩
def swS(last:AV)(s:ug):AV:=⟨last.t,(s.y%64:Nat),(s.x%64:Nat)⟩
def FZ(o:List PU)(alone:Bool)(f n:AV):PU:=⟨⟨rl (f.t:Rat),rl (n.t:Rat),!o.isEmpty&& !alone,false⟩,qoK f n⟩
def yJ(s:AV):PU:=⟨⟨rl (s.t:Rat),rl (s.t:Rat),false,false⟩,⟨(s.x:Rat),0,(s.y:Rat),0⟩⟩
theorem yK{α:Type}{l:List α}{i:Nat}{s:α}(hx:l[i]? =some s):l.drop i=s::l.drop (i+1):=by
 obtain⟨h1,h2⟩:=List.getElem?_eq_some_iff.1 hx;rw[<-h2,List.getElem_cons_drop]
section
variable{l:List ug}{i:Nat}{s:ug}{last:AV}{alone:Bool}{o:List PU}
theorem qlq(hx:l[i]? =some s)(hk:s.kind%8=0):iG (l.drop i) last alone o=iG (l.drop (i+1)) (Ef last s) true o:=by
 rw[yK hx,iG];simp only[hk];rfl
theorem qlr(hx:l[i]? =some s)(hk:s.kind%8=1):iG (l.drop i) last alone o=iG (l.drop (i+1)) (Ef last s) false (o++[FZ o alone (swS last s) (Ef last s)]):=by
 rw[yK hx,iG];simp only[hk];rfl
theorem qls(hx:l[i]? =some s)(h0:s.kind%8≠0)(hk:s.kind%8≠1):iG (l.drop i) last alone o=iG (l.drop (i+1)) (Ef last s) false (o++[FZ o alone last (Ef last s)]):=by
 rw[yK hx,iG];simp only[if_neg h0,if_neg hk,decide_eq_false h0];rfl
theorem qcZ:iG (l.drop l.length) last alone o=if alone=true then o++[yJ last] else o:=by
 rw[List.drop_length,iG];rfl
end
structure Md(s:AV)(n:Nat):Prop where
 t0:0<=s.t
 t1:s.t+8*n<=100
 x0:0<=s.x
 x1:s.x<=63
 y0:0<=s.y
 y1:s.y<=63
def JH{a:AV}{s:ug}{n:Nat}(h:Md a (n+1)):Md (Ef a s) n:=by
 have h0:=h.t0;have h1:=h.t1;exact⟨by show 0<=a.t+1+_;omega,by show a.t+1+((s.time%8:Nat):Int)+8*n<=100;omega,qlb,by show((s.x%64:Nat):Int)<=63;omega,qlc,by show((s.y%64:Nat):Int)<=63;omega⟩
def qlt{a:AV}{s:ug}{n:Nat}(h:Md a n):Md (swS a s) n:=
 ⟨h.t0,h.t1,qlc,by show((s.y%64:Nat):Int)<=63;omega,qlb,by show((s.x%64:Nat):Int)<=63;omega⟩
theorem Md.t{a:AV}{n:Nat}(h:Md a n):bY (a.t:Rat)<=2:=nZ (by have:=h.t0;omega) (by have:=h.t1;omega)
theorem Md.x{a:AV}{n:Nat}(h:Md a n):bY (a.x:Rat)<=2:=nZ (by have:=h.x0;omega) (by have:=h.x1;omega)
theorem Md.y{a:AV}{n:Nat}(h:Md a n):bY (a.y:Rat)<=2:=nZ (by have:=h.y0;omega) (by have:=h.y1;omega)
def qpz{a b:AV}{m n:Nat}(ha:Md a m)(hb:Md b n):jI (qoK a b)<=15:=by
 have dt:=DK hb.t ha.t;have dx:=DK hb.x ha.x;have dy:=DK hb.y ha.y;have sx:=Gy dx dt;have sy:=Gy dy dt;have qx:=DK ha.x (xC sx ha.t);have qy:=DK ha.y (xC sy ha.t);unfold jI qoK;dsimp only;omega
def Sm2(u:PU):Prop:=SmE 2 u.i.f∧SmE 2 u.i.t∧jI u.f<=15
def qc0{a:AV}{n:Nat}(h:Md a n):SmE 2 (rl (a.t:Rat)):=⟨⟨_,rfl⟩,CU h.t (Nat.le_refl _)⟩
def qc7{o:List PU}{alone:Bool}{a b:AV}{m n:Nat}(ha:Md a m)(hb:Md b n):Sm2 (FZ o alone a b):=⟨qc0 ha,qc0 hb,qpz ha hb⟩
def qeY{a:AV}{n:Nat}(h:Md a n):Sm2 (yJ a):=⟨qc0 h,qc0 h,by
 have:=h.x;have:=h.y;have:=y9;show max (max (bY (a.x:Rat)) (bY 0)) (max (bY (a.y:Rat)) (bY 0))<=15;omega⟩
def Ai{α:Type}{P:α->Prop}{o:List α}{x:α}(ho:∀u∈o,P u)(hx:P x):∀u∈o++[x],P u:=fun u hu=>by
 rcases List.mem_append.1 hu with h|h
 ·exact ho u h
 ·rw[List.mem_singleton] at h;exact h▸hx
def F5:∀{l:List ug} {last:AV} {alone:Bool} {o:List PU},Md last l.length->(∀u∈o,Sm2 u)->∀u∈iG l last alone o,Sm2 u
 |[],last,alone,o,h,ho=>by
  rw[iG]
  split
  ·exact Ai ho (qeY h)
  ·exact ho
 |s::l,last,alone,o,h,ho=>by
  by_cases h0:s.kind%8=0
  ·rw[show iG (s::l) last alone o=iG l (Ef last s) true o from qlq (l:=s::l) (i:=0) rfl h0];exact F5 (JH h) ho
  ·by_cases h1:s.kind%8=1
   ·rw[show iG (s::l) last alone o=_ from qlr (l:=s::l) (i:=0) rfl h1];exact F5 (l:=l) (JH h) (Ai ho (qc7 (qlt h) (JH h)))
   ·rw[show iG (s::l) last alone o=_ from qls (l:=s::l) (i:=0) rfl h0 h1];exact F5 (l:=l) (JH h) (Ai ho (qc7 h (JH h)))
def Me:∀{l:List ug} {last:AV} {alone:Bool} {o:List PU},(alone=true∨0<o.length)->0<(iG l last alone o).length∧(iG l last alone o).length<=o.length+l.length+1
 |[],last,alone,o,h=>by
  rw[iG]
  split
  ·simp
  ·rename_i ha;exact⟨h.resolve_left ha,bz⟩
 |s::l,last,alone,o,h=>by
  by_cases h0:s.kind%8=0
  ·rw[show iG (s::l) last alone o=iG l (Ef last s) true o from qlq (l:=s::l) (i:=0) rfl h0];have:=Me (l:=l) (last:=Ef last s) (alone:=true) (o:=o) (.inl rfl);simp only[List.length_cons];omega
  ·by_cases h1:s.kind%8=1
   ·rw[show iG (s::l) last alone o=_ from qlr (l:=s::l) (i:=0) rfl h1];have:=Me (l:=l) (last:=Ef last s) (alone:=false) (o:=o++[FZ o alone (swS last s) (Ef last s)]) (.inr bz);simp only[List.length_append,List.length_cons,List.length_nil] at this ⊢;rw[show List.drop (0+1) (s::l)=l from rfl];omega
   ·rw[show iG (s::l) last alone o=_ from qls (l:=s::l) (i:=0) rfl h0 h1];have:=Me (l:=l) (last:=Ef last s) (alone:=false) (o:=o++[FZ o alone last (Ef last s)]) (.inr bz);simp only[List.length_append,List.length_cons,List.length_nil] at this ⊢;rw[show List.drop (0+1) (s::l)=l from rfl];omega
def st0(t x y:Nat):AV:=⟨(t%16:Nat),(x%64:Nat),(y%64:Nat)⟩
def Pv{t x y n:Nat}(hn:n<=6):Md (st0 t x y) n:=⟨by show(0:Int)<=((t%16:Nat):Int);omega,by show((t%16:Nat):Int)+8*n<=100;omega,by show(0:Int)<=((x%64:Nat):Int);omega,by show((x%64:Nat):Int)<=63;omega,by show(0:Int)<=((y%64:Nat):Int);omega,by show((y%64:Nat):Int)<=63;omega⟩
def JI(t x y:Nat)(l:List ug):List PU:=iG l (st0 t x y) true []
theorem zl{t x y:Nat}{l:List ug}(h6:l.length<=6):jF t x y l=qY (JI t x y l):=by
 unfold jF JI;rw[List.take_of_length_le h6];rfl
section
variable{t x y:Nat}{l:List ug}
def JJ(h6:l.length<=6):Go.Via.Ends (SmE 2) (JI t x y l):=fun u hu=>by
 have h:=F5 (l:=l) (Pv h6) (o:=[]) bz u hu;exact⟨h.1,h.2.1⟩
def Px{t x y:Nat}{l:List ug}:nR gU (JI t x y l):=(D7 (l:=l) (last:=st0 t x y) (alone:=true) (out:=[]) ⟨List.Pairwise.nil,bz⟩ (by simp[Go.Via.Ends]) bz).1
def Py(h6:l.length<=6):0<(JI t x y l).length∧(JI t x y l).length<=7:=by
 have:=Me (l:=l) (last:=st0 t x y) (alone:=true) (o:=[]) (.inl rfl);unfold JI;simp only[List.length_nil] at this;omega
def qc8(h6:l.length<=6):∀u∈JI t x y l,gV u.i<=1000∧jI u.f<=1000:=fun u hu=>by
 have h:=F5 (l:=l) (Pv h6) (o:=[]) bz u hu;exact⟨qH (Nat.le_trans h.1.2 ae) (Nat.le_trans h.2.1.2 ae),Nat.le_trans h.2.2 ae⟩
def XV{f:Ln}{t:Rl}(hf:jI f<=15)(ht:eU t<=2):jI (jE f t)<=100:=by
 have h3:=pM t;have a0:=sK f;have a1:=sO f;have a2:=sQ f;have a3:=sS f;have z:=y9;have h1:bY (rE (qx f) t.p)<=50:=by
  have h:=yH (qx f) t.p;have e:bY (qx f).c2<=2:=z;have e0:bY (qx f).c0=bY f.x0:=rfl;have e1:bY (qx f).c1=bY f.x1:=rfl;omega
 have h2:bY (rE (qy f) t.p)<=50:=by
  have h:=yH (qy f) t.p;have e:bY (qy f).c2<=2:=z;have e0:bY (qy f).c0=bY f.y0:=rfl;have e1:bY (qy f).c1=bY f.y1:=rfl;omega
 unfold jE
 split
 ·show max (max (bY (rE (qx f) t.p)) (bY 0)) (max (bY (rE (qy f) t.p)) (bY 0))<=100;omega
 ·omega
def SG(h6:l.length<=6):Go.Via.Ends (SmE 2) (jF t x y l):=by
 rw[zl h6];exact(Ry (qcN 2) (Px) (JJ h6)).2
def Pz(h6:l.length<=6):Ee (jF t x y l):=fun u hu=>by
 have he:=SG h6 u hu;refine⟨qH (Nat.le_trans he.1.2 ae) (Nat.le_trans he.2.2 ae),?_⟩;rw[zl h6] at hu;refine Rz (P:=fun f=>jI f<=100) (fun v hv=>?_) u hu;have h:=F5 (l:=l) (Pv h6) (o:=[]) bz v hv;exact⟨Nat.le_trans h.2.2 ae,XV h.2.2 h.1.2,XV h.2.2 h.2.1.2⟩
def PD(h6:l.length<=6):(jF t x y l).length<=21:=by
 rw[zl h6];have:= @RD (JI t x y l);have:=(Py (t:=t) (x:=x) (y:=y) h6).2;omega
end
def XW{t x y u v w:Nat}{l m:List ug}:C9 (jF t x y l) (jF u v w m):=⟨(Hy t x y l).1,(Hy u v w m).1,(Hy t x y l).2,(Hy u v w m).2⟩
def iY.neP{α:Type}{c:α->List Value}{k:Nat}(h:iY α c k)(hk:0<k)(pre:List Value){l:List α}(hl:0<l.length):pre++ai c l≠[]:=fun e=>h.ne hk hl (List.append_eq_nil_iff.1 e).2
def qpA{f a:AV}{s:ug}(h:f.t=a.t):((Ef a s).t:Rat)-(f.t:Rat)≠0:=fun e=>by
 have e1:((Ef a s).t:Rat)=(f.t:Rat):=dQ;have e2:=Rat.intCast_inj.1 e1;rw[h] at e2;have e3:a.t+1+((s.time%8:Nat):Int)=a.t:=e2;omega
def qpB{n:Nat}{a:AV}(h:Md a n):(if-9223372036854775808<=(a.t:Rat).num∧(a.t:Rat).num<=9223372036854775807 then(a.t:Rat).num else 0)=a.t:=by
 have h0:=h.t0;have h1:=h.t1;rw[Rat.num_intCast,if_pos ⟨ae,ae⟩]
def qt9{last:AV}{s:ug}{n:Nat}{f:AV}(h:Md last n)(hf:f=if s.kind%8=1 then swS last s else last):Md f n∧f.t=last.t:=by
 subst hf;split
 ·exact⟨qlt h,rfl⟩
 ·exact⟨h,rfl⟩
def qwq{l:List ug}{i:Nat}{s:ug}{last f:AV}{alone:Bool}{o:List PU}(hx:l[i]? =some s)(h0:s.kind%8≠0)(hf:f=if s.kind%8=1 then swS last s else last):iG (l.drop i) last alone o=iG (l.drop (i+1)) (Ef last s) false (o++[FZ o alone f (Ef last s)]):=by
 subst hf
 by_cases h1:s.kind%8=1
 ·rw[if_pos h1];exact qlr hx h1
 ·rw[if_neg h1];exact qls hx h0 h1
theorem qpC{o:List PU}{alone:Bool}{f n:AV}(h:o.isEmpty=false):(FZ o alone f n).i=⟨rl (f.t:Rat),rl (n.t:Rat),!alone,false⟩:=by unfold FZ;rw[h];rfl
theorem qpD{o:List PU}{alone:Bool}{f n:AV}(h:o.isEmpty=true):(FZ o alone f n).i=⟨rl (f.t:Rat),rl (n.t:Rat),false,false⟩:=by unfold FZ;rw[h];rfl
end Go.Via
namespace Go.Proofs.YtaffcpfhedadhaaGreatDoor
open Go Go.RowKit Go.Via
def qeZ(l:List PU)(lb:Option Nat)(lN lc:Nat)(hlc:l.length<=lc:=by omega)(hln:l.length<=1000:=by omega)(h0:0<l.length:=by omega):bQ Tryz.prog 214 [⟨lb,201,ai aK l,lN,false⟩] [aB lb 0 l.length lc] (OR l.length 36) (fun r=>aB r.b 0 l.length r.cap) (fun r=>[⟨r.b,201,ai aK l,r.n,true⟩]):=by
 refine Qg 8 Tryz.func214 fun w hL0=>?_;refine A7 ?_;refine dK 0 rfl (bu.ne au ae) (fun hbs=>?_);obtain⟨gl,hgl⟩:=Option.isSome_iff_exists.1 hbs;replace hgl:lb=some gl:=hgl;subst hgl;refine A2 ?_;refine qoF AQ rfl rfl rfl rfl ?_;refine A7 ?_;refine(Bl 0 []) (qns) (fun g0=>?_);refine A1 ?_;refine jl (s:=36) (len:=0) 1 0 (ai aK l) (fun r=>[_,⟨r.b,201,ai aK l,r.n,true⟩]) AQ JW rfl rfl rfl rfl rfl rfl rfl rfl rfl rfl rfl (Nat.le_refl _) (Nat.le_refl _) (.inr ⟨_,rfl⟩) (by rw[List.drop_zero,<-bu.length l,List.take_length]) (bu.length l) (bu.ones _) ae (fun _=>rfl) (fun r=>?_);refine A4 ?_;refine aH rfl (ax rfl) (fun w hL=>⟨⟨r.b,r.n,r.cap,Nat.le_trans (Nat.le_of_eq (Nat.zero_add _).symm) r.h,r.hn⟩,?_,hL.pk [some 1]⟩);exact congrArg (fun z=>Ending.returned (aB r.b 0 z r.cap)) (Nat.zero_add _)
def Ll(l:List PU)(lb:Option Nat)(lN lc:Nat)(hlc:l.length<=lc)(hln:l.length<=1000)(hlN:lc*36<=lN)(h20:l.length<20)(hs:qcV l)(hz:∀u∈l,gV u.i<=50000):Ey Tryz.prog 237 [⟨lb,201,ai aK l,lN,true⟩] [aB lb 0 l.length lc,bF (l.length),.func (.func 216) #[] #[]] Unit (fun _=> .tuple #[]) (fun _=>[⟨lb,201,ai aK l,lN,true⟩]):=by
 refine⟨ak,fun B w hD hL0=>?_⟩;refine cB3 63 Tryz.func237 hL0 ?_;refine FH ?_;refine El (ι:={u:Unit // True}) (fun⟨u,hu⟩=>([(0,aB lb 0 l.length lc),(1,bF (l.length)),(2,.func (.func 216) #[] #[]),(6,.int .i64 20),(7,.int .i64 0),(8,.int .i64 20)],[⟨lb,201,ai aK l,lN,true⟩],0)) ⟨(),trivial⟩ ?_ (hL:=fE.auto);rintro⟨u,hu⟩;(try dsimp only);refine A8 ?_;refine Cd ?_ ?_<;>intro haQ
 ·exact absurd (of_decide_eq_true haQ) ae
 ·refine A6 ?_;refine mG ?_;refine A4 ?_;refine Gm 1 [0] [] (fun _=>[_]) (qpo l lb lN lc hs hz hlc hlN) (fun _=>?_);refine A3 ?_;refine El (ι:={u:Unit // True}) (fun⟨u,hu⟩=>([(0,aB lb 0 l.length lc),(1,bF (l.length)),(2,.func (.func 216) #[] #[]),(6,.int .i64 20)],[⟨lb,201,ai aK l,lN,true⟩],0)) ⟨(),trivial⟩ ?_ (hL:=fE.auto);rintro⟨u,hu⟩;(try dsimp only);refine A8 ?_;refine Cd ?_ ?_<;>intro hbQ
  ·exact absurd (of_decide_eq_true hbQ) ae
  ·refine A4 ?_
   exact qk5
def JK(l:List PU)(lb:Option Nat)(lN lc:Nat)(hlc:l.length<=lc)(hln:l.length<=1000)(hlN:lc*36<=lN)(h20:l.length<20)(hs:qcV l)(hz:∀u∈l,gV u.i<=50000):Ey Tryz.prog 215 [⟨lb,201,ai aK l,lN,true⟩] [aB lb 0 l.length lc,.func (.func 216) #[] #[]] Unit (fun _=> .tuple #[]) (fun _=>[⟨lb,201,ai aK l,lN,true⟩]):=by
 refine⟨ak,fun B w hD hL0=>?_⟩;refine cB2 9 Tryz.func215 hL0 ?_;refine mG ?_;refine A4 ?_;refine Gm 1 [0] [] (fun _=>[_]) (Ll l lb lN lc hlc hln hlN h20 hs hz) (fun _=>?_);refine A1 ?_
 exact qk5
def Lp(l:List PU)(lb:Option Nat)(lN lc:Nat)(hlc:l.length<=lc)(hln:l.length<=1000)(h0:0<l.length)(h20:l.length<20)(hs:qcV l)(hz:∀u∈l,gV u.i<=50000):bQ Tryz.prog 184 [⟨lb,201,ai aK l,lN,false⟩] [aB lb 0 l.length lc] (SR (l).length) SR.v (fun z=>[⟨z.b,201,ai aK (l),z.n,true⟩]):=by
 refine Qg 9 Tryz.func184 fun w hL0=>?_;refine A8 ?_;refine(Sc [0]) (qeZ l lb lN lc hlc hln h0) (fun z=>?_);obtain⟨ob,oN,oc,hoc,hoN⟩:=z;refine A4 ?_;refine mG ?_;refine A1 ?_;refine Gm 1 [1] [] (fun _=>[_,_]) (JK l ob oN oc hoc hln hoN h20 hs hz) (fun _=>?_);refine A9 ?_;refine aH rfl (ax rfl) (fun w hL=>⟨⟨ob,oN,oc,hoc⟩,?_,hL.pk [some 1]⟩);exact rfl
def PE(t:Rl)(f:Ln)(o:List PU)(ob:Option Nat)(oN oc n0 gv:Nat)(hn0:n0=o.length)(h3:n0<=oc:=by omega)(h4:oc*36<=oN:=by omega)(hm:n0<=100000:=by omega):Ey Tryz.prog 219 [⟨some gv,148,[aB ob 0 n0 oc],1,true⟩,⟨ob,201,ai aK o,oN,true⟩] [RV t,AU f,dA gv] (OR (n0+1) 36) (fun _=> .tuple #[]) (fun r=>[⟨some gv,148,[aB r.b 0 (n0+1) r.cap],1,true⟩,⟨r.b,201,ai aK (o++[Ah t f]),r.n,true⟩]):=by
 refine⟨ak,fun B w hD hL0=>?_⟩;refine cB3 13 Tryz.func219 hL0 ?_;refine nI fun g0=>?_;refine Bp 16 (fun g1=>?_);refine A4 ?_;refine L9 2 0 ?_;refine L9 2 0 ?_;refine(Bu [(0,_),(1,_)]) (Tu) ?_;refine Kr 8 (lC ⟨t,t,false,false⟩) ?_;refine L16 3 0 ?_;refine(Bu [(0,_),(1,_)]) (LM) ?_;refine Kr 10 (PUV (Ah t f)) ?_;refine(Bl 36 [(0,_)]) (zB) (fun g2=>?_);refine(Qa (s:=36) (len:=n0) (n2:=1) 1 4 (fun r=>[_,⟨some r.g,201,ai aK o++aK (Ah t f),r.n,true⟩,_,_,_]) AQ JW) (by exact(by rw[bu.length,hn0])) h3 h4 (bu.one (Ah t f)) (fun r=>?_);refine Ss 0 ?_;refine A1 ?_
 refine VT rfl (fun w hL=>⟨⟨some r.g,r.n,r.cap,r.h,r.hn⟩,?_,hL.picks [some 0,some 1] ⟨pR,⟨_,rfl,aV kH⟩,trivial⟩ rfl rfl⟩);exact rfl
def ES(l:List PU)(lb:Option Nat)(lN lc:Nat)(hlc:l.length<=lc)(hln:l.length<=1000)(t:Rl):bQ Tryz.prog 188 [⟨lb,201,ai aK l,lN,false⟩] [aB lb 0 l.length lc,RV t] Unit (fun _=> .bool (tX l t)) (fun _=>[]):=by
 refine sB2 31 Tryz.func188 fun w hL0=>?_;refine nI fun g0=>?_;refine qX ?_;refine qh 0 rfl (fun hba=>?_);have hlb:l.length=0∨∃g,lb=some g:=qJ bu au hba;refine Di [] ?_ (hc:=(qg [0,1,3,7,7,23,63,127,255,511,7,2047,4095,8191,16383,16383,49151,131071,262143,524287,1048575,2097151,4194303,8388607] ak));refine A3 ?_;refine Rs 10 ?_ ?_<;>intro haQ
 ·have hlt:0<l.length:=iE;obtain⟨u,hu⟩:∃u,l[l.length-1]? =some u:=⟨_,List.getElem?_eq_getElem ae⟩;obtain⟨gl,hgl⟩:=hlb.resolve_left ae;subst hgl;refine qk2 ?_;refine Fg ((l.length-1)*36+0) 9 ?_;refine aT (v:=RV u.i.t) 0 ((l.length-1)*36+0+9) _ rfl rfl rfl rfl jk (bu.sub hu 9 9 au) rfl au rfl ?_;refine L9 1 0 ?_;refine zZ ?_;refine A2 ?_;refine Rs 21 ?_ ?_<;>intro hbQ
  ·have hut:decide (u.i.t=t)=true:=hbQ;refine qk2 ?_;refine Fg ((l.length-1)*36+0) 19 ?_;refine aT (v:= .bool u.i.tp) 0 ((l.length-1)*36+0+19) _ rfl rfl rfl rfl Ya (bu.sub hu 19 1 au) rfl au rfl ?_;refine A6 ?_;exact qk3
  ·have hut:decide (u.i.t=t)=false:=hbQ;refine EE ?_;exact qk3
 ·have hlt:¬0<l.length:=U2
  refine A24 ?_;refine aH rfl (ax rfl) (fun w hL=>⟨(),?_,hL.pk []⟩);rw[qeU hlt]
def PG(l:List PU)(lb:Option Nat)(lN lc:Nat)(hlc:l.length<=lc:=by omega)(hln:l.length<=1000:=by omega):bQ Tryz.prog 186 [⟨lb,201,ai aK l,lN,false⟩] [aB lb 0 l.length lc] (SR (aC l).length) SR.v (fun z=>[⟨z.b,201,ai aK (aC l),z.n,true⟩]):=by
 refine Qg 54 Tryz.func186 fun w hL0=>?_;refine A7 ?_;refine DR [_] 1 (fun g=>[_,⟨some g,148,_,1,true⟩]) rfl rfl z148 rfl rfl (fun _=>rfl) (fun g0=>?_);refine PX ?_;refine El (ι:={z:Nat×List PU×Option Nat×Nat×Nat // z.1<=l.length∧z.2.1=aC (l.take z.1)∧z.2.1.length<=z.2.2.2.2∧z.2.2.2.2*36<=z.2.2.2.1}) (fun⟨⟨i,o,ob,oN,oc⟩,hi,hI,h3,h4⟩=>([(3,dA g0),(4,.func (.func 219) #[] #[dA g0]),(8,aB lb 0 l.length lc),(9,bF (l.length)),(10,bF i)],[⟨lb,201,ai aK l,lN,false⟩,⟨some g0,148,[aB ob 0 o.length oc],1,true⟩,⟨ob,201,ai aK o,oN,true⟩],l.length-i)) ⟨⟨0,[],none,0,0⟩,Nat.zero_le _,rfl,Nat.le_refl _,bz⟩ ?_ (hL:=(ay [some 0,some 1,none] ⟨pR,pR,⟨rfl,rfl,rfl⟩,trivial⟩ rfl rfl));rintro⟨⟨i,o,ob,oN,oc⟩,hi,hI,h3,h4⟩;(try dsimp only);replace hi:i<=l.length:=hi;replace hI:o=aC (l.take i):=hI;replace h3:o.length<=oc:=h3;replace h4:oc*36<=oN:=h4
 have hol:o.length<=10000:=(by have:= @D5 (l.take i);rw[hI];simp only[List.length_take] at this;omega);refine A6 ?_;refine Cd ?_ ?_<;>intro haQ
 ·have hlt:i<l.length:=iE;obtain⟨x,hx⟩:∃x,l[i]? =some x:=⟨l[i],List.getElem?_eq_getElem hlt⟩;refine dK 0 rfl (bu.ne au ae) (fun hbs=>?_);obtain⟨gl,hgl⟩:=Option.isSome_iff_exists.1 hbs;replace hgl:lb=some gl:=hgl;subst hgl;refine A6 ?_;refine XP ?_;refine aT (v:=PUV x) 0 ((i)*36) _ rfl rfl rfl rfl BD (bu.sub hx 0 36 au) rfl au rfl ?_;refine Al 36 qu8 (fun g1=>?_);refine Ss 3 ?_;refine qX ?_;refine Cd ?_ ?_<;>intro hbQ
  ·have hfo:x.i.fo=false:=Js
   refine mG ?_;refine A3 ?_;refine L9 3 0 ?_;refine U0 ?_;refine Jb (f:=219) (A:=[⟨some g0,148,[aB ob 0 o.length oc],1,true⟩,⟨ob,201,ai aK o,oN,true⟩]) (C:=[]) [RV x.i.f,AU x.f] [dA g0] [1,2] [] (fun r1=>[_,⟨some g0,148,[aB r1.b 0 (o.length+1) r1.cap],1,true⟩,⟨r1.b,201,ai aK (o++[Ah x.i.f x.f]),r1.n,true⟩,_]) rfl rfl rfl rfl rfl (PE x.i.f x.f o ob oN oc o.length g0 rfl h3 h4) au rfl rfl trivial rfl rfl (fun _=>rfl) (fun _=>TE rfl) (fun _=>rfl) (fun r1=>?_);refine A6 ?_;refine zO 3 0 ?_;refine Pc (jm _) ?_;refine A2 ?_;refine Cd ?_ ?_<;>intro hcQ
   ·have hin:dU x.i=true:=hcQ;refine qC ?_;exact Nl ⟨⟨i+1,(o++[Ah x.i.f x.f]),r1.b,r1.n,r1.cap⟩,hlt,by show(o++[Ah x.i.f x.f])=aC (l.take (i+1));rw[<-rY hx,<-hI,qlh hfo hin];(try simp),Nat.le_trans (Nat.le_of_eq ((show(o.length+1)=(o++[Ah x.i.f x.f]).length by simp)).symm) r1.h,r1.hn⟩ (hμ:=nJ) (hL:=(ay [some 0,some 1,some 2] ⟨pR,⟨_,rfl,aV (by rw[show((o++[Ah x.i.f x.f])).length=(o.length+1) by simp])⟩,pR,trivial⟩ rfl rfl))
   ·have hin:dU x.i=false:=hcQ;refine qk1 fun g2=>?_;refine mO (s:=36) (len:=(o.length+1)) (n2:=1) 2 4 (fun r2=>[_,_,⟨some r2.g,201,ai aK ((o++[Ah x.i.f x.f])++[nP x]),r2.n,true⟩,_,_]) AQ JW rfl rfl rfl rfl rfl rfl rfl rfl rfl rfl rfl rfl ((bu.length _).trans (congrArg (· *36) ((show(o.length+1)=(o++[Ah x.i.f x.f]).length by simp)).symm)) r1.h r1.hn rfl (bu.one (nP x)) ae (fun _=>congrArg (fun c=>_::_::aF.mk _ 201 c _ true::_) (rQ (o++[Ah x.i.f x.f]) (nP x))) (fun r2=>?_);refine So 1 0 [_,⟨some g0,148,_,1,true⟩,_,_,_] [_] ?_;refine lh ?_;refine Cd ?_ ?_<;>intro hdQ
    ·have htp:x.i.tp=false:=uB
     refine mG ?_;refine A3 ?_;refine Ld 3 9 [_,_,_,_,_,_,_,_,_] jk ?_;refine U0 ?_;refine Jb (f:=219) (A:=[⟨some g0,148,[aB (some r2.g) 0 ((o.length+1)+1) r2.cap],1,true⟩,⟨(some r2.g),201,ai aK ((o++[Ah x.i.f x.f])++[nP x]),r2.n,true⟩]) (C:=[]) [RV x.i.t,AU x.f] [dA g0] [1,2] [] (fun r3=>[_,⟨some g0,148,[aB r3.b 0 (((o.length+1)+1)+1) r3.cap],1,true⟩,⟨r3.b,201,ai aK (((o++[Ah x.i.f x.f])++[nP x])++[Ah x.i.t x.f]),r3.n,true⟩,_,_]) rfl rfl rfl rfl rfl (PE x.i.t x.f ((o++[Ah x.i.f x.f])++[nP x]) (some r2.g) r2.n r2.cap ((o.length+1)+1) g0 (show((o.length+1)+1)=((o++[Ah x.i.f x.f])++[nP x]).length by simp) r2.h r2.hn) au rfl rfl trivial rfl rfl (fun _=>rfl) (fun _=>TE rfl) (fun _=>rfl) (fun r3=>?_);refine vW ?_;exact Nl ⟨⟨i+1,(((o++[Ah x.i.f x.f])++[nP x])++[Ah x.i.t x.f]),r3.b,r3.n,r3.cap⟩,hlt,by show(((o++[Ah x.i.f x.f])++[nP x])++[Ah x.i.t x.f])=aC (l.take (i+1));rw[<-rY hx,<-hI,qli hfo hin htp];(try simp),Nat.le_trans (Nat.le_of_eq ((show(((o.length+1)+1)+1)=(((o++[Ah x.i.f x.f])++[nP x])++[Ah x.i.t x.f]).length by simp)).symm) r3.h,r3.hn⟩ (hμ:=nJ) (hL:=(ay [some 0,some 1,some 2] ⟨pR,⟨_,rfl,aV (by rw[show((((o++[Ah x.i.f x.f])++[nP x])++[Ah x.i.t x.f])).length=(((o.length+1)+1)+1) by simp])⟩,pR,trivial⟩ rfl rfl))
    ·have htp:x.i.tp=true:=uB
     refine vW ?_;exact Nl ⟨⟨i+1,((o++[Ah x.i.f x.f])++[nP x]),(some r2.g),r2.n,r2.cap⟩,hlt,by show((o++[Ah x.i.f x.f])++[nP x])=aC (l.take (i+1));rw[<-rY hx,<-hI,qlj hfo hin htp];(try simp),Nat.le_trans (Nat.le_of_eq ((show((o.length+1)+1)=((o++[Ah x.i.f x.f])++[nP x]).length by simp)).symm) r2.h,r2.hn⟩ (hμ:=nJ) (hL:=(ay [some 0,some 1,some 2] ⟨pR,⟨_,rfl,aV (by rw[show(((o++[Ah x.i.f x.f])++[nP x])).length=((o.length+1)+1) by simp])⟩,pR,trivial⟩ rfl rfl))
  ·have hfo:x.i.fo=true:=Js
   refine A6 ?_;refine zO 3 0 ?_;refine Pc (jm _) ?_;refine A2 ?_;refine Cd ?_ ?_<;>intro hcQ
   ·have hin:dU x.i=true:=hcQ;refine qC ?_;exact Nl ⟨⟨i+1,o,ob,oN,oc⟩,hlt,by show o=aC (l.take (i+1));rw[<-rY hx,<-hI,qlk hfo hin];(try simp),Nat.le_trans (Nat.le_of_eq (rfl).symm) h3,h4⟩ (hμ:=nJ) (hL:=(ay [some 0,some 1,some 2] ⟨pR,⟨_,rfl,aV (by rw[show(o).length=o.length by simp])⟩,pR,trivial⟩ rfl rfl))
   ·have hin:dU x.i=false:=hcQ;refine qk1 fun g2=>?_;refine mO (s:=36) (len:=o.length) (n2:=1) 2 4 (fun r1=>[_,_,⟨some r1.g,201,ai aK (o++[nP x]),r1.n,true⟩,_,_]) AQ JW rfl rfl rfl rfl rfl rfl rfl rfl rfl rfl rfl rfl ((bu.length _).trans (congrArg (· *36) (rfl).symm)) h3 h4 rfl (bu.one (nP x)) ae (fun _=>congrArg (fun c=>_::_::aF.mk _ 201 c _ true::_) (rQ o (nP x))) (fun r1=>?_);refine So 1 0 [_,⟨some g0,148,_,1,true⟩,_,_,_] [_] ?_;refine lh ?_;refine Cd ?_ ?_<;>intro hdQ
    ·have htp:x.i.tp=false:=uB
     refine mG ?_;refine A3 ?_;refine Ld 3 9 [_,_,_,_,_,_,_,_,_] jk ?_;refine U0 ?_;refine Jb (f:=219) (A:=[⟨some g0,148,[aB (some r1.g) 0 (o.length+1) r1.cap],1,true⟩,⟨(some r1.g),201,ai aK (o++[nP x]),r1.n,true⟩]) (C:=[]) [RV x.i.t,AU x.f] [dA g0] [1,2] [] (fun r2=>[_,⟨some g0,148,[aB r2.b 0 ((o.length+1)+1) r2.cap],1,true⟩,⟨r2.b,201,ai aK ((o++[nP x])++[Ah x.i.t x.f]),r2.n,true⟩,_,_]) rfl rfl rfl rfl rfl (PE x.i.t x.f (o++[nP x]) (some r1.g) r1.n r1.cap (o.length+1) g0 (show(o.length+1)=(o++[nP x]).length by simp) r1.h r1.hn) au rfl rfl trivial rfl rfl (fun _=>rfl) (fun _=>TE rfl) (fun _=>rfl) (fun r2=>?_);refine vW ?_;exact Nl ⟨⟨i+1,((o++[nP x])++[Ah x.i.t x.f]),r2.b,r2.n,r2.cap⟩,hlt,by show((o++[nP x])++[Ah x.i.t x.f])=aC (l.take (i+1));rw[<-rY hx,<-hI,qll hfo hin htp];(try simp),Nat.le_trans (Nat.le_of_eq ((show((o.length+1)+1)=((o++[nP x])++[Ah x.i.t x.f]).length by simp)).symm) r2.h,r2.hn⟩ (hμ:=nJ) (hL:=(ay [some 0,some 1,some 2] ⟨pR,⟨_,rfl,aV (by rw[show(((o++[nP x])++[Ah x.i.t x.f])).length=((o.length+1)+1) by simp])⟩,pR,trivial⟩ rfl rfl))
    ·have htp:x.i.tp=true:=uB
     refine vW ?_;exact Nl ⟨⟨i+1,(o++[nP x]),(some r1.g),r1.n,r1.cap⟩,hlt,by show(o++[nP x])=aC (l.take (i+1));rw[<-rY hx,<-hI,qlm hfo hin htp];(try simp),Nat.le_trans (Nat.le_of_eq ((show(o.length+1)=(o++[nP x]).length by simp)).symm) r1.h,r1.hn⟩ (hμ:=nJ) (hL:=(ay [some 0,some 1,some 2] ⟨pR,⟨_,rfl,aV (by rw[show((o++[nP x])).length=(o.length+1) by simp])⟩,pR,trivial⟩ rfl rfl))
 ·have hge:i=l.length:=iV;subst hge;obtain rfl:o=aC l:=Ad
  refine oH ?_;exact qav
def Lr{S:Rl->Prop}{ρ:Rl->Int}(T:dM S ρ)(l:List PU)(lb:Option Nat)(lN lc:Nat)(hlc:l.length<=lc)(hln:l.length<=1000)(hsep:nR ρ l)(hE:Go.Via.Ends S l)(h0:0<l.length)(h20:l.length<20)(hz:∀u∈l,gV u.i<=1000∧jI u.f<=1000):bQ Tryz.prog 135 [⟨lb,201,ai aK l,lN,false⟩] [.iface 197 (.agg #[]),aB lb 0 l.length lc] (SR (qY l).length) (fun z=> .tuple #[z.v,.int .i64 0]) (fun z=>[⟨z.b,201,ai aK (qY l),z.n,true⟩]):=by
 refine⟨ak,fun w hL0=>?_⟩;have hal:= @D5 l;refine cB2 219 Tryz.func135 hL0 ?_;refine A9 ?_;refine(Sc [0]) (Lp l lb lN lc hlc hln h0 h20 (ZT T hsep hE) (fun u hu=>Nat.le_trans (hz u hu).1 ae)) (fun z=>?_);obtain⟨sb,sN,sc,hsc⟩:=z;refine oH ?_;refine El (ι:={i:Nat // i<=l.length}) (fun⟨i,hi⟩=>([(0,.iface 197 (.agg #[])),(1,aB sb 0 l.length sc),(17,bF (l.length)),(18,bF i)],[⟨lb,201,ai aK l,lN,false⟩,⟨sb,201,ai aK l,sN,true⟩],l.length-i)) ⟨0,Nat.zero_le _⟩ ?_ (hL:=fE.auto);rintro⟨i,hi⟩;(try dsimp only);refine A6 ?_;refine Cd ?_ ?_<;>intro haQ
 ·have hlt:i<l.length:=iE;obtain⟨x,hx⟩:∃x,l[i]? =some x:=⟨l[i],List.getElem?_eq_getElem hlt⟩;have hxz:=hz x (List.mem_of_getElem? hx);refine dK 1 rfl (bu.ne au ae) (fun hbs=>?_);obtain⟨gs,hgs⟩:=Option.isSome_iff_exists.1 hbs;replace hgs:sb=some gs:=hgs;subst hgs;refine qX ?_;refine Di [] ?_;refine A3 ?_;refine Rs 23 ?_ ?_<;>intro hbQ
  ·have hip:0<i:=by have e:=of_decide_eq_true hbQ;omega
   obtain⟨u,hu⟩:∃u,l[i-1]? =some u:=⟨_,List.getElem?_eq_getElem ae⟩;have huz:=hz u (List.mem_of_getElem? hu);have hap:=qeW T hsep hE hip hu hx;refine A2 ?_;refine qaE ?_;refine aJ 1 ((i-1)*36) AQ BD rfl rfl rfl rfl rfl ae ae (bu.ne au ae) wH ?_;refine Fg ((i-1)*36) 0 ?_;refine aT (v:=lC u.i) 1 ((i-1)*36) _ rfl rfl rfl rfl o7 (bu.sub hu 0 20 au) rfl au rfl ?_;refine A2 ?_;refine aJ 1 ((i)*36) AQ BD rfl rfl rfl rfl rfl ae ae (bu.ne au ae) wH ?_;refine Fg ((i)*36) 0 ?_;refine aT (v:=lC x.i) 1 ((i)*36) _ rfl rfl rfl rfl o7 (bu.sub hx 0 20 au) rfl au rfl ?_;refine Pc (OZ u.i x.i) ?_;refine aP 35 (.bool true) rfl (congrArg Value.bool hap) ?_;refine A9 ?_;exact qkZ
  ·refine A21 ?_;exact qkZ
 ·have hge:i=l.length:=iV;subst hge;refine EE ?_;refine(Sc [1]) (PG l sb sN sc hsc hln) (fun z=>?_);obtain⟨ab,aN,ac,hac⟩:=z;refine oH ?_;refine El (ι:={z:Nat×List PU×Option Nat×Nat×Nat // z.1<=(aC l).length∧qY l=nrm (aC l) z.1 z.2.1∧z.2.1.length<=z.1∧z.2.1.length<=z.2.2.2.2∧z.2.2.2.2*36<=z.2.2.2.1∧∀u∈z.2.1,jI u.f<=8000}) (fun⟨⟨i,o,ob,oN,oc⟩,hi,hI,hoi,h3,h4,hoz⟩=>([(0,.iface 197 (.agg #[])),(7,aB ob 0 o.length oc),(8,aB ab 0 (aC l).length ac),(41,aB ab 0 (aC l).length ac),(42,bF ((aC l).length)),(43,bF i)],[⟨lb,201,ai aK l,lN,false⟩,⟨sb,201,ai aK l,sN,true⟩,⟨ab,201,ai aK (aC l),aN,true⟩,⟨ob,201,ai aK o,oN,true⟩],(aC l).length-i)) ⟨⟨0,[],none,0,0⟩,Nat.zero_le _,rfl,Nat.le_refl _,Nat.le_refl _,bz,fun u hu=>by cases hu⟩ ?_ (hL:=(ay [some 0,some 1,some 2,none] ⟨pR,pR,pR,⟨rfl,rfl,rfl⟩,trivial⟩ rfl rfl));rintro⟨⟨i,o,ob,oN,oc⟩,hi,hI,hoi,h3,h4,hoz⟩;(try dsimp only);replace hi:i<=(aC l).length:=hi;replace hI:qY l=nrm (aC l) i o:=hI;replace hoi:o.length<=i:=hoi;replace h3:o.length<=oc:=h3;replace h4:oc*36<=oN:=h4;replace hoz:∀u∈o,jI u.f<=8000:=hoz;refine A6 ?_;refine Cd ?_ ?_<;>intro hbQ
  ·have hlt:i<(aC l).length:=kN;obtain⟨x,hx⟩:∃x,(aC l)[i]? =some x:=⟨_,List.getElem?_eq_getElem hlt⟩;obtain⟨hxv,hxf⟩:=Pq hz x (List.mem_of_getElem? hx);have hxi1:=Nat.le_trans (ig x.i) hxv;refine dK 2 rfl (bu.ne au ae) (fun hbs=>?_);obtain⟨ga,hga⟩:=Option.isSome_iff_exists.1 hbs;replace hga:ab=some ga:=hga;subst hga;refine qh 3 rfl (fun hbo=>?_);have hob:o.length=0∨∃g,ob=some g:=qJ bu au hbo;refine A7 ?_;refine aJ 2 ((i)*36) AQ BD rfl rfl rfl rfl rfl ae ae (bu.ne au ae) wH ?_;refine aT (v:=PUV x) 2 ((i)*36) _ rfl rfl rfl rfl BD (bu.sub hx 0 36 au) rfl au rfl ?_;refine Al 36 qu8 (fun g0=>?_);refine A1 ?_;refine Ss 4 ?_;refine A6 ?_;refine L9 4 0 ?_;refine Al 9 QI (fun g1=>?_);refine Ss 5 ?_;refine A7 ?_;refine nV (nt:=219) (X:={z:Option PU // z=uV o x.i.f}) (fun⟨bp,hbp⟩=>[(0,.iface 197 (.agg #[])),(7,aB ob 0 o.length oc),(8,aB (some ga) 0 (aC l).length ac),(41,aB (some ga) 0 (aC l).length ac),(42,bF ((aC l).length)),(43,bF i),(9,bF i),(10,dA g0),(11,dA g1),(12,.pointer (bfP ob o.length bp))]) (fun⟨bp,hbp⟩=>[⟨lb,201,ai aK l,lN,false⟩,⟨sb,201,ai aK l,sN,true⟩,⟨some ga,201,ai aK (aC l),aN,true⟩,⟨ob,201,ai aK o,oN,true⟩,⟨some g0,201,aK x,36,true⟩,⟨some g1,38,kQ x.i.f,9,true⟩]) ?_ ?_
   ·refine A8 ?_;refine Di [] ?_ (hc:=(qg [0,1,3,7,7,23,63,127,255,511,7,2047,4095,8191,16383,16383,49151,131071,262143,524287,1048575,2097151,4194303] ak));refine A3 ?_;refine Rs 55 ?_ ?_<;>intro hcQ
    ·have hn0:0<o.length:=by have e:=of_decide_eq_true hcQ;omega
     obtain⟨u,hu⟩:∃u,o[o.length-1]? =some u:=⟨_,List.getElem?_eq_getElem ae⟩;obtain⟨go,hgo⟩:=hob.resolve_left ae;subst hgo;refine A2 ?_;refine qaC ?_;refine Fg ((o.length-1)*36) 0 ?_;refine Fg ((o.length-1)*36) 9 ?_;refine aT (v:=RV u.i.t) 3 ((o.length-1)*36+9) _ rfl rfl rfl rfl jk (bu.sub hu 9 9 au) rfl au rfl ?_;refine L9 5 0 ?_;refine zZ ?_;refine A2 ?_;refine Rs 66 ?_ ?_<;>intro hdQ
     ·have hut:u.i.t=x.i.f:=of_decide_eq_true hdQ;refine A2 ?_;refine qaC ?_;refine Fg ((o.length-1)*36) 0 ?_;refine aT (v:=lC u.i) 3 ((o.length-1)*36) _ rfl rfl rfl rfl o7 (bu.sub hu 0 20 au) rfl au rfl ?_;refine Pc (jm u.i) ?_;refine A4 ?_;refine Cd ?_ ?_<;>intro heQ
      ·have hui:dU u.i=false:=yI
       refine A3 ?_;refine qaC ?_;refine A3 ?_;exact Ni ⟨some u,(qpv hu hut hui).symm⟩ [0,1,2,3,4,5]
      ·have hui:dU u.i=true:=yI
       refine A2 ?_;exact Ni ⟨none,(qpu hu hui).symm⟩ [0,1,2,3,4,5]
     ·have hut:u.i.t≠x.i.f:=of_decide_eq_false hdQ;refine FH ?_;exact Ni ⟨none,(qpt hu hut).symm⟩ [0,1,2,3,4,5]
    ·have hn0:¬0<o.length:=qld
     refine A25 ?_;exact Ni ⟨none,(qeV hn0).symm⟩ [0,1,2,3,4,5]
   rintro⟨bp,hbp⟩;show At _ ⟨219,[(0,.iface 197 (.agg #[])),(7,aB ob 0 o.length oc),(8,aB (some ga) 0 (aC l).length ac),(41,aB (some ga) 0 (aC l).length ac),(42,bF ((aC l).length)),(43,bF i),(9,bF i),(10,dA g0),(11,dA g1),(12,.pointer (bfP ob o.length bp))],[⟨lb,201,ai aK l,lN,false⟩,⟨sb,201,ai aK l,sN,true⟩,⟨some ga,201,ai aK (aC l),aN,true⟩,⟨ob,201,ai aK o,oN,true⟩,⟨some g0,201,aK x,36,true⟩,⟨some g1,38,kQ x.i.f,9,true⟩]⟩ _;rcases bp with _|b
   ·refine A4 ?_;refine zO 4 0 ?_;refine Pc (jm x.i) ?_;refine A4 ?_;refine Cd ?_ ?_<;>intro hcQ
    ·have hxi:dU x.i=false:=rX
     refine nV (nt:=219) (X:={u:Unit // jV o (pg (aC l) i) x (aC l)[i+1]? =o++[⟨⟨x.i.f,x.i.t,Dk o (pg (aC l) i) x,x.i.tp⟩,x.f⟩]}) (fun⟨_,hst⟩=>[(0,.iface 197 (.agg #[])),(7,aB ob 0 o.length oc),(8,aB (some ga) 0 (aC l).length ac),(41,aB (some ga) 0 (aC l).length ac),(42,bF ((aC l).length)),(43,bF i),(9,bF i),(10,dA g0),(11,dA g1),(12,.pointer (bfP ob o.length none))]) (fun⟨_,hst⟩=>[⟨lb,201,ai aK l,lN,false⟩,⟨sb,201,ai aK l,sN,true⟩,⟨some ga,201,ai aK (aC l),aN,true⟩,⟨ob,201,ai aK o,oN,true⟩,⟨some g0,201,aK x,36,true⟩,⟨some g1,38,kQ x.i.f,9,true⟩]) ?_ ?_
     ·refine A1 ?_;refine Di [] ?_ (hc:=(qg [0,1,3,7,15,31,63,127,255,511,1023,2047,2047,6143,14335,30719,2047,67583,4095,266239,790527,2097151,4194303] ak));refine A1 ?_;refine DY qpy rfl rfl rfl rfl rfl ?_;refine A26 ?_;exact Ni ⟨(),qyt hxi hbp.symm⟩ [0,1,2,3,4,5]
     rintro⟨_,hst⟩;show At _ ⟨219,[(0,.iface 197 (.agg #[])),(7,aB ob 0 o.length oc),(8,aB (some ga) 0 (aC l).length ac),(41,aB (some ga) 0 (aC l).length ac),(42,bF ((aC l).length)),(43,bF i),(9,bF i),(10,dA g0),(11,dA g1),(12,.pointer (bfP ob o.length none))],[⟨lb,201,ai aK l,lN,false⟩,⟨sb,201,ai aK l,sN,true⟩,⟨some ga,201,ai aK (aC l),aN,true⟩,⟨ob,201,ai aK o,oN,true⟩,⟨some g0,201,aK x,36,true⟩,⟨some g1,38,kQ x.i.f,9,true⟩]⟩ _;refine nV (nt:=219) (X:={z:Bool // Dk o (pg (aC l) i) x=z}) (fun⟨z,hz⟩=>[(0,.iface 197 (.agg #[])),(7,aB ob 0 o.length oc),(8,aB (some ga) 0 (aC l).length ac),(41,aB (some ga) 0 (aC l).length ac),(42,bF ((aC l).length)),(43,bF i),(9,bF i),(10,dA g0),(11,dA g1),(12,.pointer (bfP ob o.length none))]) (fun⟨z,hz⟩=>[⟨lb,201,ai aK l,lN,false⟩,⟨sb,201,ai aK l,sN,true⟩,⟨some ga,201,ai aK (aC l),aN,true⟩,⟨ob,201,ai aK o,oN,true⟩,⟨some g0,201,aK ⟨⟨x.i.f,x.i.t,z,x.i.tp⟩,x.f⟩,36,true⟩,⟨some g1,38,kQ x.i.f,9,true⟩]) ?_ ?_
     ·refine A1 ?_;refine Di [] ?_ (hc:=(qg [0,1,3,7,7,23,63,127,255,511,1023,2047,4095,4095,12287,32767,65535,131071,262143,4095,1048575,2097151,4194303,8388607,8388607,33554431,67108863,134217727] ak));refine A3 ?_;refine Rs 131 ?_ ?_<;>intro hdQ
      ·have hip:0<i:=U3
       obtain⟨p,hp⟩:∃p,(aC l)[i-1]? =some p:=⟨_,List.getElem?_eq_getElem ae⟩;have hpr:=XU hip hp;refine qk8 ?_;refine Rs 140 ?_ ?_<;>intro heQ
       ·have hpi:dU p.i=true:=heQ;refine qk9 ?_;refine L9 5 0 ?_;refine zZ ?_;refine A2 ?_;refine Rs 151 ?_ ?_<;>intro hfQ
        ·have hpf:p.i.f=x.i.f:=of_decide_eq_true hfQ;refine A1 ?_;refine L9 5 0 ?_;refine(Sd [3]) (ES o ob oN oc h3 ae x.i.f) ?_;exact qkV
        ·exact qkW
       ·exact qkY
      ·exact qkX
     rintro⟨z,hz⟩;show At _ ⟨219,[(0,.iface 197 (.agg #[])),(7,aB ob 0 o.length oc),(8,aB (some ga) 0 (aC l).length ac),(41,aB (some ga) 0 (aC l).length ac),(42,bF ((aC l).length)),(43,bF i),(9,bF i),(10,dA g0),(11,dA g1),(12,.pointer (bfP ob o.length none))],[⟨lb,201,ai aK l,lN,false⟩,⟨sb,201,ai aK l,sN,true⟩,⟨some ga,201,ai aK (aC l),aN,true⟩,⟨ob,201,ai aK o,oN,true⟩,⟨some g0,201,aK ⟨⟨x.i.f,x.i.t,z,x.i.tp⟩,x.f⟩,36,true⟩,⟨some g1,38,kQ x.i.f,9,true⟩]⟩ _;exact qrd
    ·have hxi:dU x.i=true:=rX
     refine A1 ?_;have hst:jV o (pg (aC l) i) x (aC l)[i+1]? =AL o (aC l)[i+1]? x:=qyw hxi hbp.symm;refine wE ?_;refine DY qpy rfl rfl rfl rfl rfl ?_;refine A18 ?_;refine nV (nt:=219) (X:={z:Bool // AL o (aC l)[i+1]? x=if z=true then o else o++[⟨x.i,jE x.f x.i.f⟩]}) (fun⟨z,hz0⟩=>[(0,.iface 197 (.agg #[])),(7,aB ob 0 o.length oc),(8,aB (some ga) 0 (aC l).length ac),(41,aB (some ga) 0 (aC l).length ac),(42,bF ((aC l).length)),(43,bF i),(9,bF i),(10,dA g0),(11,dA g1),(12,.pointer (bfP ob o.length none)),(184,.bool z)]) (fun⟨z,hz0⟩=>[⟨lb,201,ai aK l,lN,false⟩,⟨sb,201,ai aK l,sN,true⟩,⟨some ga,201,ai aK (aC l),aN,true⟩,⟨ob,201,ai aK o,oN,true⟩,⟨some g0,201,aK x,36,true⟩,⟨some g1,38,kQ x.i.f,9,true⟩]) ?_ ?_
     ·refine Di [] ?_ (hc:=(qg (0::1::0::4::15::31::63::63::191::511::1023::2047::4095::63::16383::32767::65535::131071::131071::131071::655359::1966079::4063231::8257535::131071::16908287::131071::262143::134479871::402915327::1073741823::2147483647::4294967295::[]) ak));refine A1 ?_;refine rG ?_;refine A4 ?_;refine Rs 190 ?_ ?_<;>intro hdQ
      ·have hjt:i+1<(aC l).length:=U3
       obtain⟨n,hn⟩:∃n,(aC l)[i+1]? =some n:=⟨_,List.getElem?_eq_getElem hjt⟩;obtain⟨hnv,hnf_⟩:=Pq hz n (List.mem_of_getElem? hn);refine qk0 ?_;refine A2 ?_;refine Rs 201 ?_ ?_<;>intro heQ
       ·have hnf:n.i.f=x.i.f:=of_decide_eq_true heQ;exact qrf
       ·have hnf:n.i.f≠x.i.f:=of_decide_eq_false heQ;exact qk4
      ·have hn:(aC l)[i+1]? =none:=List.getElem?_eq_none qaH;exact qk6
     rintro⟨z,hz0⟩;show At _ ⟨219,[(0,.iface 197 (.agg #[])),(7,aB ob 0 o.length oc),(8,aB (some ga) 0 (aC l).length ac),(41,aB (some ga) 0 (aC l).length ac),(42,bF ((aC l).length)),(43,bF i),(9,bF i),(10,dA g0),(11,dA g1),(12,.pointer (bfP ob o.length none)),(184,.bool z)],[⟨lb,201,ai aK l,lN,false⟩,⟨sb,201,ai aK l,sN,true⟩,⟨some ga,201,ai aK (aC l),aN,true⟩,⟨ob,201,ai aK o,oN,true⟩,⟨some g0,201,aK x,36,true⟩,⟨some g1,38,kQ x.i.f,9,true⟩]⟩ _;refine Cd ?_ ?_<;>intro hdQ
     ·have hzv:z=true:=hdQ;refine qC ?_;exact Nl ⟨⟨i+1,o,ob,oN,oc⟩,hlt,qle,Nat.le_succ_of_le hoi,h3,h4,hoz⟩ (hμ:=JE) (hL:=fE.auto)
     ·have hzv:z=false:=hdQ;exact qrc
   ·obtain⟨hbl,hbt,hbi⟩:=qln hbp.symm;have hbm:=List.mem_of_getElem? hbl;have hbz:=hoz b hbm;have hon:0<o.length:=List.length_pos_of_mem hbm;obtain⟨go,hgo⟩:=hob.resolve_left ae;subst hgo;refine A4 ?_;refine zO 4 0 ?_;refine Pc (jm x.i) ?_;refine A4 ?_;refine Cd ?_ ?_<;>intro hcQ
    ·have hxi:dU x.i=false:=rX
     refine nV (nt:=219) (X:={u:Unit // jV o (pg (aC l) i) x (aC l)[i+1]? =o++[⟨⟨x.i.f,x.i.t,Dk o (pg (aC l) i) x,x.i.tp⟩,x.f⟩]}) (fun⟨_,hst⟩=>[(0,.iface 197 (.agg #[])),(7,aB (some go) 0 o.length oc),(8,aB (some ga) 0 (aC l).length ac),(41,aB (some ga) 0 (aC l).length ac),(42,bF ((aC l).length)),(43,bF i),(9,bF i),(10,dA g0),(11,dA g1),(12,.pointer (bfP (some go) o.length (some b)))]) (fun⟨_,hst⟩=>[⟨lb,201,ai aK l,lN,false⟩,⟨sb,201,ai aK l,sN,true⟩,⟨some ga,201,ai aK (aC l),aN,true⟩,⟨some go,201,ai aK o,oN,true⟩,⟨some g0,201,aK x,36,true⟩,⟨some g1,38,kQ x.i.f,9,true⟩]) ?_ ?_
     ·refine A1 ?_;refine Di [] ?_ (hc:=(qg [0,1,3,7,15,31,63,127,255,511,1023,2047,2047,6143,14335,30719,2047,67583,4095,266239,790527,2097151,4194303] ak));refine A1 ?_;refine DY qpy rfl rfl rfl rfl rfl ?_;refine A3 ?_;refine qaG ?_;refine aT (v:= .bool b.i.tp) 3 ((o.length-1)*36+19) _ rfl rfl rfl rfl Ya (bu.sub hbl 19 1 au) rfl au rfl ?_;refine A3 ?_;refine Rs 105 ?_ ?_<;>intro hdQ
      ·have htp:b.i.tp=false:=uB
       refine A3 ?_;refine qk7 ?_;refine qaD ?_;refine A1 ?_;refine LZ 197 (.agg #[]) (.agg #[]) [_,_] rfl rfl rfl (fun _=>ak) rfl (Qm b.f x.f) ?_;refine A3 ?_;refine Cd ?_ ?_<;>intro heQ
       ·have hbf:b.f=x.f:=of_decide_eq_true heQ;refine A6 ?_;refine L9 4 9 ?_;refine A1 ?_;refine Fg ((o.length-1)*36) 0 ?_;refine Fg ((o.length-1)*36) 9 ?_;refine jB rfl 3 ((o.length-1)*36+9) [_,_,_,_,_,_] (ai aK (o.set (o.length-1) ⟨⟨b.i.f,x.i.t,b.i.fo,b.i.tp⟩,b.f⟩)) rfl rfl rfl rfl jk rfl (by rw[Nat.ble_eq,bu.length];show(o.length-1)*36+9+9<=(o).length*36;(try simp only[List.length_set]);omega) rfl (bu.setf hbl rfl au) rfl ?_;refine A1 ?_;refine qaG ?_;refine jB rfl 3 ((o.length-1)*36+19) [_,_,_,_,_,_] (ai aK ((o.set (o.length-1) ⟨⟨b.i.f,x.i.t,b.i.fo,b.i.tp⟩,b.f⟩).set (o.length-1) ⟨⟨b.i.f,x.i.t,b.i.fo,true⟩,b.f⟩)) rfl rfl rfl rfl Ya rfl (by rw[Nat.ble_eq,bu.length];show(o.length-1)*36+19+1<=(o.set (o.length-1) ⟨⟨b.i.f,x.i.t,b.i.fo,b.i.tp⟩,b.f⟩).length*36;(try simp only[List.length_set]);omega) rfl (bu.setf (show(o.set (o.length-1) ⟨⟨b.i.f,x.i.t,b.i.fo,b.i.tp⟩,b.f⟩)[o.length-1]? =some ⟨⟨b.i.f,x.i.t,b.i.fo,b.i.tp⟩,b.f⟩ by rw[List.getElem?_set_self ae]) rfl au) rfl ?_;refine A4 ?_;refine Td rfl ?_;refine A3 ?_;refine kM ?_;exact Nl ⟨⟨i+1,(o.set (o.length-1) ⟨⟨b.i.f,x.i.t,b.i.fo,b.i.tp⟩,b.f⟩).set (o.length-1) ⟨⟨b.i.f,x.i.t,b.i.fo,true⟩,b.f⟩,some go,oN,oc⟩,hlt,by rw[List.set_set,XR hbl,<-qys (prev:=pg (aC l) i) (next:=(aC l)[i+1]?) hxi hbp.symm htp hbf,<-Dj hx];exact hI,qaA,VP,h4,qaL (qaL hoz hbz) hbz⟩ (hμ:=JE) (ht:=⟨rfl,(aO rfl (by simp only[List.length_set])),rfl,rfl,rfl,rfl,trivial⟩) (hL:=fE.auto)
       ·have hbf:b.f≠x.f:=of_decide_eq_false heQ;refine A2 ?_;exact Ni ⟨(),qwm hxi hbp.symm (fun e=>hbf e.2)⟩ [0,1,2,3,4,5]
      ·have htp:b.i.tp=true:=uB
       refine PX ?_;exact Ni ⟨(),qwm hxi hbp.symm (fun e=>by rw[htp] at e;cases e.1)⟩ [0,1,2,3,4,5]
     rintro⟨_,hst⟩;show At _ ⟨219,[(0,.iface 197 (.agg #[])),(7,aB (some go) 0 o.length oc),(8,aB (some ga) 0 (aC l).length ac),(41,aB (some ga) 0 (aC l).length ac),(42,bF ((aC l).length)),(43,bF i),(9,bF i),(10,dA g0),(11,dA g1),(12,.pointer (bfP (some go) o.length (some b)))],[⟨lb,201,ai aK l,lN,false⟩,⟨sb,201,ai aK l,sN,true⟩,⟨some ga,201,ai aK (aC l),aN,true⟩,⟨some go,201,ai aK o,oN,true⟩,⟨some g0,201,aK x,36,true⟩,⟨some g1,38,kQ x.i.f,9,true⟩]⟩ _;refine nV (nt:=219) (X:={z:Bool // Dk o (pg (aC l) i) x=z}) (fun⟨z,hz⟩=>[(0,.iface 197 (.agg #[])),(7,aB (some go) 0 o.length oc),(8,aB (some ga) 0 (aC l).length ac),(41,aB (some ga) 0 (aC l).length ac),(42,bF ((aC l).length)),(43,bF i),(9,bF i),(10,dA g0),(11,dA g1),(12,.pointer (bfP (some go) o.length (some b)))]) (fun⟨z,hz⟩=>[⟨lb,201,ai aK l,lN,false⟩,⟨sb,201,ai aK l,sN,true⟩,⟨some ga,201,ai aK (aC l),aN,true⟩,⟨some go,201,ai aK o,oN,true⟩,⟨some g0,201,aK ⟨⟨x.i.f,x.i.t,z,x.i.tp⟩,x.f⟩,36,true⟩,⟨some g1,38,kQ x.i.f,9,true⟩]) ?_ ?_
     ·refine A1 ?_;refine Di [] ?_ (hc:=(qg [0,1,3,7,7,23,63,127,255,511,1023,2047,4095,4095,12287,32767,65535,131071,262143,4095,1048575,2097151,4194303,8388607,8388607,33554431,67108863,134217727] ak));refine A3 ?_;refine Rs 131 ?_ ?_<;>intro hdQ
      ·have hip:0<i:=U3
       obtain⟨p,hp⟩:∃p,(aC l)[i-1]? =some p:=⟨_,List.getElem?_eq_getElem ae⟩;have hpr:=XU hip hp;refine qk8 ?_;refine Rs 140 ?_ ?_<;>intro heQ
       ·have hpi:dU p.i=true:=heQ;refine qk9 ?_;refine L9 5 0 ?_;refine zZ ?_;refine A2 ?_;refine Rs 151 ?_ ?_<;>intro hfQ
        ·have hpf:p.i.f=x.i.f:=of_decide_eq_true hfQ;refine A1 ?_;refine L9 5 0 ?_;refine(Sd [3]) (ES o (some go) oN oc h3 ae x.i.f) ?_;exact qkV
        ·exact qkW
       ·exact qkY
      ·exact qkX
     rintro⟨z,hz⟩;show At _ ⟨219,[(0,.iface 197 (.agg #[])),(7,aB (some go) 0 o.length oc),(8,aB (some ga) 0 (aC l).length ac),(41,aB (some ga) 0 (aC l).length ac),(42,bF ((aC l).length)),(43,bF i),(9,bF i),(10,dA g0),(11,dA g1),(12,.pointer (bfP (some go) o.length (some b)))],[⟨lb,201,ai aK l,lN,false⟩,⟨sb,201,ai aK l,sN,true⟩,⟨some ga,201,ai aK (aC l),aN,true⟩,⟨some go,201,ai aK o,oN,true⟩,⟨some g0,201,aK ⟨⟨x.i.f,x.i.t,z,x.i.tp⟩,x.f⟩,36,true⟩,⟨some g1,38,kQ x.i.f,9,true⟩]⟩ _;exact qrd
    ·have hxi:dU x.i=true:=rX
     refine A1 ?_;refine wE ?_;refine DY qpy rfl rfl rfl rfl rfl ?_;refine A4 ?_;refine qk7 ?_;refine L9 5 0 ?_;refine qaD ?_;refine A1 ?_;refine LZ 197 (.agg #[]) (.agg #[]) [_,_,_] rfl rfl rfl (fun _=>ak) rfl (Iq b.f x.f x.i.f) ?_;refine A4 ?_;refine Cd ?_ ?_<;>intro hdQ
     ·have hsm:qj b.f x.f x.i.f=true:=hdQ;refine A3 ?_;refine qaG ?_;refine jB rfl 3 ((o.length-1)*36+19) [_,_,_,_,_,_] (ai aK (o.set (o.length-1) ⟨⟨b.i.f,b.i.t,b.i.fo,false⟩,b.f⟩)) rfl rfl rfl rfl Ya rfl (by rw[Nat.ble_eq,bu.length];show(o.length-1)*36+19+1<=(o).length*36;(try simp only[List.length_set]);omega) rfl (bu.setf hbl rfl au) rfl ?_;refine qC ?_;exact Nl ⟨⟨i+1,o.set (o.length-1) ⟨⟨b.i.f,b.i.t,b.i.fo,false⟩,b.f⟩,some go,oN,oc⟩,hlt,by rw[XR hbl,<-qyu (prev:=pg (aC l) i) (next:=(aC l)[i+1]?) hxi hbp.symm hsm,<-Dj hx];exact hI,qaA,VP,h4,qaL hoz hbz⟩ (hμ:=JE) (ht:=⟨rfl,(aO rfl (by simp only[List.length_set])),rfl,rfl,rfl,rfl,trivial⟩) (hL:=fE.auto)
     ·have hsm:qj b.f x.f x.i.f=false:=hdQ;have hst:jV o (pg (aC l) i) x (aC l)[i+1]? =AL o (aC l)[i+1]? x:=qyv hxi hbp.symm hsm;refine nV (nt:=219) (X:={z:Bool // AL o (aC l)[i+1]? x=if z=true then o else o++[⟨x.i,jE x.f x.i.f⟩]}) (fun⟨z,hz0⟩=>[(0,.iface 197 (.agg #[])),(7,aB (some go) 0 o.length oc),(8,aB (some ga) 0 (aC l).length ac),(41,aB (some ga) 0 (aC l).length ac),(42,bF ((aC l).length)),(43,bF i),(9,bF i),(10,dA g0),(11,dA g1),(12,.pointer (bfP (some go) o.length (some b))),(184,.bool z)]) (fun⟨z,hz0⟩=>[⟨lb,201,ai aK l,lN,false⟩,⟨sb,201,ai aK l,sN,true⟩,⟨some ga,201,ai aK (aC l),aN,true⟩,⟨some go,201,ai aK o,oN,true⟩,⟨some g0,201,aK x,36,true⟩,⟨some g1,38,kQ x.i.f,9,true⟩]) ?_ ?_
      ·refine Di [] ?_ (hc:=(qg (0::1::0::4::15::31::63::63::191::511::1023::2047::4095::63::16383::32767::65535::131071::131071::131071::655359::1966079::4063231::8257535::131071::16908287::131071::262143::134479871::402915327::1073741823::2147483647::4294967295::[]) ak));refine A1 ?_;refine rG ?_;refine A4 ?_;refine Rs 190 ?_ ?_<;>intro heQ
       ·have hjt:i+1<(aC l).length:=by have e:=of_decide_eq_true heQ;omega
        obtain⟨n,hn⟩:∃n,(aC l)[i+1]? =some n:=⟨_,List.getElem?_eq_getElem hjt⟩;obtain⟨hnv,hnf_⟩:=Pq hz n (List.mem_of_getElem? hn);refine qk0 ?_;refine A2 ?_;refine Rs 201 ?_ ?_<;>intro hfQ
        ·have hnf:n.i.f=x.i.f:=of_decide_eq_true hfQ;exact qrf
        ·have hnf:n.i.f≠x.i.f:=of_decide_eq_false hfQ;exact qk4
       ·have hn:(aC l)[i+1]? =none:=List.getElem?_eq_none (by have e:=of_decide_eq_false heQ;omega);exact qk6
      rintro⟨z,hz0⟩;show At _ ⟨219,[(0,.iface 197 (.agg #[])),(7,aB (some go) 0 o.length oc),(8,aB (some ga) 0 (aC l).length ac),(41,aB (some ga) 0 (aC l).length ac),(42,bF ((aC l).length)),(43,bF i),(9,bF i),(10,dA g0),(11,dA g1),(12,.pointer (bfP (some go) o.length (some b))),(184,.bool z)],[⟨lb,201,ai aK l,lN,false⟩,⟨sb,201,ai aK l,sN,true⟩,⟨some ga,201,ai aK (aC l),aN,true⟩,⟨some go,201,ai aK o,oN,true⟩,⟨some g0,201,aK x,36,true⟩,⟨some g1,38,kQ x.i.f,9,true⟩]⟩ _;refine Cd ?_ ?_<;>intro heQ
      ·have hzv:z=true:=heQ;refine qC ?_;exact Nl ⟨⟨i+1,o,(some go),oN,oc⟩,hlt,qle,Nat.le_succ_of_le hoi,h3,h4,hoz⟩ (hμ:=JE) (hL:=fE.auto)
      ·have hzv:z=false:=heQ;exact qrc
  ·have hge:i=(aC l).length:=lw;subst hge;obtain rfl:o=qY l:=(hI.trans qpw).symm;refine EE ?_;refine bT rfl (ax rfl) (ax rfl) (fun w hL=>⟨⟨ob,oN,oc,h3⟩,?_,hL.pk [some 3]⟩);exact rfl
end Go.Proofs.YtaffcpfhedadhaaGreatDoor
namespace Go.Via
open Go
def qe0{α:Type}{c:α->List Value}{k:Nat}(h:iY α c k)(hk:0<k)(pre:List Value){l:List α}{b:Option Nat}(hb:b=none->pre++ai c l=[]):l.length=0∨∃g,b=some g:=
 qJ h hk fun e=>(List.append_eq_nil_iff.1 (hb e)).2
def qlu{x y:Int}(m n:Nat)(hm:m<256)(hx:x=(m:Int))(hy:y=(n:Int)):IntKind.u8.wrap (x.tdiv y)=((m/n:Nat):Int):=by
 subst hx;subst hy;rw[show(m:Int).tdiv (n:Int)=((m/n:Nat):Int) from(Int.ofNat_tdiv m n).symm];have h:=Nat.div_le_self m n
 generalize m/n=q at h ⊢
 exact Yv
def XX{x y:Int}(m n:Nat)(hx:x=(m:Int))(hy:y=(n:Int)):IntKind.u8.wrap (x+y)=(((m+n)%256:Nat):Int):=by
 subst hx;subst hy;exact Tj
def Iy(ch:Nat)(s:ug):ug:=⟨s.time,(s.x+ch/16)%256,(s.y+1)%256,s.kind⟩
def chS(ch:Nat)(l:List ug):List ug:=if 0<l.length∧1<ch%4 then(match l[ch/4%l.length]? with
 |some s=>l.set (ch/4%l.length) (Iy ch s)
 |none=>l) else l
theorem qpE(ch:Nat)(l:List ug):(chS ch l).length=l.length:=by
 unfold chS
 split
 ·split
  ·rw[List.length_set]
  ·rfl
 ·rfl
def qua{ch:Nat}{l:List ug}(h:∀s∈l,okS s):∀s∈chS ch l,okS s:=fun s hs=>by
 unfold chS at hs
 split at hs
 ·split at hs
  ·rename_i u hu
   rcases List.mem_or_eq_of_mem_set hs with e|e
   ·exact h s e
   ·have hu':=h u (List.mem_of_getElem? hu);subst e;exact⟨hu'.1,Nat.mod_lt _ au,Nat.mod_lt _ au,hu'.2.2.2⟩
  ·exact h s hs
 ·exact h s hs
def qpF{ch k:Nat}{l:List ug}{s:ug}(h0:0<l.length)(h1:1<ch%4)(hk:k=ch/4%l.length)(hx:l[k]? =some s):chS ch l=(l.set k ⟨s.time,(s.x+ch/16)%256,s.y,s.kind⟩).set k (Iy ch s):=by
 subst hk;unfold chS;rw[if_pos ⟨h0,h1⟩,hx,List.set_set]
theorem qlv{ch:Nat}{l:List ug}(h:¬(0<l.length∧1<ch%4)):chS ch l=l:=by unfold chS;rw[if_neg h]
def qU(ta xa ya:Nat)(a:List ug)(tb xb yb:Nat)(b:List ug)(ch:Nat):List PU:=if 0<ch%4 then jF ta xa ya (chS ch a) else jF tb xb yb b
section
variable{ta xa ya tb xb yb ch:Nat}{a b:List ug}
def qpG(h:¬0<ch%4):qU ta xa ya a tb xb yb b ch=jF tb xb yb b:=by unfold qU;rw[if_neg h]
def PH(h:0<ch%4):qU ta xa ya a tb xb yb b ch=jF ta xa ya (chS ch a):=by unfold qU;rw[if_pos h]
def qlw(ha:a.length<=6)(hb:b.length<=6):(qU ta xa ya a tb xb yb b ch).length<=21:=by
 unfold qU;split
 ·exact PD qaI
 ·exact PD hb
def qlx(ha:a.length<=6)(hb:b.length<=6):Ee (qU ta xa ya a tb xb yb b ch):=by
 unfold qU;split
 ·exact Pz qaI
 ·exact Pz hb
def qly:C9 (jF ta xa ya a) (qU ta xa ya a tb xb yb b ch):=by
 unfold qU;split
 ·exact XW
 ·exact XW
end
end Go.Via
namespace Go.Via
open Go
def XY{f:Ln}{t:Rl}(hf:jI f<=15)(ht:eU t<=2):jI (jE f t)<=38:=by
 have h3:=pM t;have a0:=sK f;have a1:=sO f;have a2:=sQ f;have a3:=sS f;have z:=y9;have h1:bY (rE (qx f) t.p)<=38:=by
  have h:=yH (qx f) t.p;have e:bY (qx f).c2<=2:=z;have e0:bY (qx f).c0=bY f.x0:=rfl;have e1:bY (qx f).c1=bY f.x1:=rfl;omega
 have h2:bY (rE (qy f) t.p)<=38:=by
  have h:=yH (qy f) t.p;have e:bY (qy f).c2<=2:=z;have e0:bY (qy f).c0=bY f.y0:=rfl;have e1:bY (qy f).c1=bY f.y1:=rfl;omega
 unfold jE
 split
 ·show max (max (bY (rE (qx f) t.p)) (bY 0)) (max (bY (rE (qy f) t.p)) (bY 0))<=38;omega
 ·omega
def qub(l:List PU):Prop:=∀u∈l,gV u.i<=2∧jI u.f<=38
section
variable{t x y:Nat}{l:List ug}
def U5(h6:l.length<=6):qub (jF t x y l):=fun u hu=>by
 have he:=SG h6 u hu;refine⟨qH he.1.2 he.2.2,?_⟩;rw[zl h6] at hu;refine Rz (P:=fun f=>jI f<=38) (fun v hv=>?_) u hu;have h:=F5 (l:=l) (Pv h6) (o:=[]) bz v hv;exact⟨Nat.le_trans h.2.2 ae,XY h.2.2 h.1.2,XY h.2.2 h.2.1.2⟩
end
structure Fl(A B:List PU):Prop where
 sa:Ee A
 sb:Ee B
 H:C9 A B
 la:A.length<=21
 lb:B.length<=21
 za:qub A
 zb:qub B
def C9.swap{A B:List PU}(H:C9 A B):C9 B A:=⟨H.sb,H.sa,H.eb,H.ea⟩
def Fl.swap{A B:List PU}(F:Fl A B):Fl B A:=⟨F.sb,F.sa,F.H.swap,F.lb,F.la,F.zb,F.za⟩
section
variable{ta xa ya tb xb yb ch:Nat}{a b:List ug}
def quc(ha:a.length<=6)(hb:b.length<=6):Fl (jF ta xa ya a) (qU ta xa ya a tb xb yb b ch):=
 ⟨Pz ha,qlx ha hb,qly,PD ha,qlw ha hb,U5 ha,by
 unfold qU;split
 ·exact U5 qaI
 ·exact U5 hb⟩
end
abbrev Gi(A B:List PU):List iT:=(aA A B).map aW
section
variable{A B:List PU}
theorem Fl.flat(F:Fl A B):aA A B=flatK jP A B:=fP jM F.H.sa F.H.sb F.H.ea F.H.eb
def Fl.PS(F:Fl A B):∀x∈aA A B,(fO x.1.f∧fO x.1.t)∧aI gU x.1.b<aI gU x.1.e:=fun x hx=>by
 rw[F.flat] at hx;exact uZ jM F.H.ea F.H.eb x hx
def Fl.cS(F:Fl A B):∀p∈Gi A B,fO p.i.f∧fO p.i.t:=fun p hp=>by
 obtain⟨x,hx,rfl⟩:=List.mem_map.1 hp;exact(F.PS x hx).1
theorem Fl.ps(F:Fl A B):∀z∈aA A B,gV z.1<=2∧ve z.2<=324:=fun z hz=>by
 rw[F.flat,qi3] at hz;obtain⟨x,hx,y,hy,e⟩:=hz;unfold jP fC at e
 split at e
 ·simp at e;subst e;exact⟨XE (F.za x hx).1 (F.zb y hy).1,Nat.le_trans (qjS (F.za x hx).2 (F.zb y hy).2) ae⟩
 ·simp at e
def qrg{f:Qd}{t:Rl}(ht:fO t)(hf:ve f<=324)(hz:eU t<=2):eU (zN f t)<=1000:=by
 obtain⟨z,rfl⟩:=ht;rw[rF];have h:=yH f (z:Rat);have h0:=qE f;have h1:=qF f;have h2:=rf f;have h3:bY (z:Rat)<=2:=Nat.le_trans (pM (rl (z:Rat))) hz;exact CU ae ae
def Fl.sz(F:Fl A B):∀p∈Gi A B,gV p.i<=1000∧eU p.a<=1000∧eU p.b<=1000:=fun p hp=>by
 obtain⟨x,hx,rfl⟩:=List.mem_map.1 hp;obtain⟨h1,h2⟩:=F.ps x hx;obtain⟨h3,h4⟩:=(F.PS x hx).1;exact⟨Nat.le_trans h1 ae,qrg h3 h2 (Nat.le_trans (ig _) h1),qrg h4 h2 (Nat.le_trans (gW _) h1)⟩
theorem Fl.n(F:Fl A B):(Gi A B).length<=42:=by
 have h:=vG A B;have h1:=F.la;have h2:=F.lb;rw[List.length_map];omega
def Fl.ne(h:(Gi A B).length≠0):aA A B≠[]:=fun e=>h (by rw[Gi,e];rfl)
def Fl.mostz(F:Fl A B):eU (qZ (Gi A B))<=1000:=by
 by_cases h:aA A B=[]
 ·rw[Gi,h];exact CU (Nat.le_trans y9 ae) ae
 ·rw[OL F.H.sa F.H.sb F.H.ea F.H.eb h];obtain⟨p,hp,e⟩:=RP (l:=Gi A B) (by intro e;exact h (List.map_eq_nil_iff.1 e));have:=F.sz p hp;rcases e with e|e<;>rw[e]
  ·exact this.2.1
  ·exact this.2.2
theorem Fl.most(F:Fl A B)(h:(Gi A B).length≠0):fB (Gi A B)=qZ (Gi A B):=(OL F.H.sa F.H.sb F.H.ea F.H.eb (Fl.ne h)).symm
def Fl.ok(F:Fl A B)(h:(Gi A B).length≠0):qQ A B (Gi A B) (fB (Gi A B))=0:=qiY F.H.sa F.H.sb F.H.ea F.H.eb (Fl.ne h)
def Fl.comm(F:Fl A B):Gi B A=Gi A B:=by rw[Gi,Gi,Xv F.H.sa F.H.sb F.H.ea F.H.eb]
def Fl.nil(F:Fl A B)(h:(Gi A B).length=0)(c:List iT)(m:Rl):qQ A B c m=36:=by
 unfold qQ;rw[if_pos (by rw[List.map_eq_nil_iff.1 (List.length_eq_zero_iff.1 h)];rfl)]
theorem Fl.with(F:Fl A B){x:Rl}(h:decide (aY (qZ (Gi A B)) x<=0)=true):((if(Gi A B).length=0 then(36:Int) else 0) !=0||decide (aY (fB (Gi A B)) x<=0))=true:=by
 by_cases h0:(Gi A B).length=0
 ·rw[if_pos h0];rfl
 ·rw[F.most h0,h,Bool.or_true]
def Fl.sz5(F:Fl A B):∀p∈Gi A B,gV p.i<=5000∧eU p.a<=5000∧eU p.b<=5000:=fun p hp=>by
 have h:=F.sz p hp;omega
end
end Go.Via
namespace Go.Via
open Go
def chP(d:Nat)(q:Rat)(p:iT):iT:=
 if d=2 then⟨p.i,⟨p.a.p+q,p.a.r,p.a.n⟩,p.b⟩ else if d=3 then⟨p.i,p.a,⟨p.b.p+q,p.b.r,p.b.n⟩⟩
 else if d=4 then⟨⟨p.i.f,⟨p.i.t.p+q,p.i.t.r,p.i.t.n⟩,p.i.fo,p.i.tp⟩,p.a,p.b⟩ else if d=5 then⟨⟨p.i.f,p.i.t,p.i.fo,!p.i.tp⟩,p.a,p.b⟩
 else if d=6 then⟨⟨p.i.f,p.i.t,!p.i.fo,p.i.tp⟩,p.a,p.b⟩ else if d=9 then⟨p.i,p.a,⟨p.b.p,p.b.r,!p.b.n⟩⟩ else p
def wW(c:List iT)(d k:Nat)(q:Rat):List iT:=
 if d=7 then c.take k++c.drop (k+1) else if d=8 then(match c[0]?,c[k]? with|some x,some y=>(c.set 0 y).set k x|_,_=>c)
 else(match c[k]? with|some p=>c.set k (chP d q p)|none=>c)
def Qq(c:List iT)(m:Rl)(d:Nat)(q:Rat):Rl:=if c=[] then m else if d=1 then⟨m.p+q,m.r,m.n⟩ else m
section
variable{c:List iT}{d k:Nat}{q:Rat}{p p0:iT}{m:Rl}
def qpH:wW [] d k q=[]:=by unfold wW;split;simp;split<;>simp
def qpI:Qq [] m d q=m:=if_pos rfl
def IA(h:0<c.length)(hd:d≠1):Qq c m d q=m:=by unfold Qq;rw[if_neg hd];exact ite_self _
def qwr(h:0<c.length)(hd:d=1):Qq c m d q=⟨m.p+q,m.r,m.n⟩:=by unfold Qq;rw[if_neg (fun e=>by rw[e] at h;cases h),if_pos hd]
def qlz{α:Type}{l:List α}{k:Nat}{p:α}(hp:l[k]? =some p):l.set k p=l:=by
 apply List.ext_getElem?;intro i;rw[List.getElem?_set];split
 ·rename_i e;subst e;have:=(List.getElem?_eq_some_iff.1 hp).1;rw[if_pos this];exact hp.symm
 ·rfl
theorem qws(hp:c[k]? =some p)(h7:d≠7)(h8:d≠8):wW c d k q=c.set k (chP d q p):=by unfold wW;rw[if_neg h7,if_neg h8,hp]
def qwt(hd:d=0∨d=1∨9<d)(hp:c[k]? =some p):wW c d k q=c:=by
 rw[qws hp ae ae,show chP d q p=p from by unfold chP;rw[if_neg ae,if_neg ae,if_neg ae,if_neg ae,if_neg ae,if_neg ae]];exact qlz hp
def qyy(hd:d=1){c:List iT}{k:Nat}(hk:k<c.length):wW c d k q=c:=qwt (.inr (.inl hd)) (List.getElem?_eq_getElem hk)
def qyz(hd:d=2)(hp:c[k]? =some p):wW c d k q=c.set k ⟨p.i,⟨p.a.p+q,p.a.r,p.a.n⟩,p.b⟩:=JF
def qyA(hd:d=3)(hp:c[k]? =some p):wW c d k q=c.set k ⟨p.i,p.a,⟨p.b.p+q,p.b.r,p.b.n⟩⟩:=JF
def qyB(hd:d=4)(hp:c[k]? =some p):wW c d k q=c.set k ⟨⟨p.i.f,⟨p.i.t.p+q,p.i.t.r,p.i.t.n⟩,p.i.fo,p.i.tp⟩,p.a,p.b⟩:=JF
def qyC(hd:d=5)(hp:c[k]? =some p):wW c d k q=c.set k ⟨⟨p.i.f,p.i.t,p.i.fo,!p.i.tp⟩,p.a,p.b⟩:=JF
def qyD(hd:d=6)(hp:c[k]? =some p):wW c d k q=c.set k ⟨⟨p.i.f,p.i.t,!p.i.fo,p.i.tp⟩,p.a,p.b⟩:=JF
def qyE(hd:d=7):wW c d k q=c.take k++c.drop (k+1):=if_pos hd
def qyF(hd:d=8)(h0:c[0]? =some p0)(hp:c[k]? =some p):wW c d k q=(c.set 0 p).set k p0:=by subst hd;unfold wW;rw[if_neg au,if_pos rfl,h0,hp]
def qyG(hd:d=9)(hp:c[k]? =some p):wW c d k q=c.set k ⟨p.i,p.a,⟨p.b.p,p.b.r,!p.b.n⟩⟩:=JF
end
end Go.Via
namespace Go.Proofs.YtaffcpfhedadhaaGreatDoor
open Go Go.RowKit Go.Via
def Qr(ta xa ya tb xb yb ch:Nat)(a b:List ug)(ab bb:Option Nat)(pa pb:List Value)(ac bc:Nat):aG Tryz.prog 12 #[.agg #[.int .u8 (ta:Nat),.int .u8 (xa:Nat),.int .u8 (ya:Nat),aB ab pa.length a.length ac,.int .u8 (tb:Nat),.int .u8 (xb:Nat),.int .u8 (yb:Nat),aB bb pb.length b.length bc,.int .u8 (ch:Nat)]] (.bool (decide (a.length<=6)&&decide (b.length<=6))):=by
 refine vC 15 Tryz.func12 fun w=>?_;refine nI fun g0=>?_;refine qX ?_;refine Rs 8 ?_ ?_<;>intro haQ
 ·have hs1:a.length<=6:=qaJ
  refine lh ?_;refine E0 ?_;exact congrArg (fun z=>Ending.returned (.bool z)) (by rw[decide_eq_true hs1,Bool.true_and];exact decide_eq_decide.2 ae)
 ·have hs1:¬a.length<=6:=U2
  refine lh ?_;refine E0 ?_;exact congrArg (fun z=>Ending.returned (.bool z)) (by rw[decide_eq_false hs1];rfl)
def XZ(n e:Int)(up dn:Nat)(hn1: -9223372036854775808<=n:=by omega)(hn2:n<=9223372036854775807:=by omega)(he1: -9223372036854775808<=e:=by omega)(he2:e<=9223372036854775807:=by omega)(hup:up<256:=by omega)(hdn:dn<256:=by omega):aG Tryz.prog 110 #[.agg #[.int .i64 n,.int .i64 e,.int .u8 (up:Nat),.int .u8 (dn:Nat)]] (Q (qL n e up dn)):=by
 refine vC 47 Tryz.func110 fun w=>?_;refine iH fun g0=>?_;refine rM fun g1=>?_;refine A9 ?_;refine nV (nt:=47) (X:={E:Int // E=if e=0 then 1 else e}) (fun⟨E,hE⟩=>[(1,dA g0),(2,dA g1),(3,.int .i64 E)]) (fun⟨E,hE⟩=>[⟨some g0,55,[.int .i64 n,.int .i64 e,.int .u8 (up:Nat),.int .u8 (dn:Nat)],4,true⟩,⟨some g1,36,[aQ,aS,aQ,aS],4,true⟩]) ?_ ?_
 ·refine A6 ?_;refine Cd ?_ ?_<;>intro haQ
  ·have hq0:e=0:=of_decide_eq_true haQ;refine A4 ?_;exact Ni ⟨1,(if_pos hq0).symm⟩ [0,1]
  ·have hq0:¬e=0:=of_decide_eq_false haQ;refine A2 ?_;exact Ni ⟨e,(if_neg hq0).symm⟩ [0,1]
 rintro⟨E,hE⟩;show At _ ⟨47,[(1,dA g0),(2,dA g1),(3,.int .i64 E)],[⟨some g0,55,[.int .i64 n,.int .i64 e,.int .u8 (up:Nat),.int .u8 (dn:Nat)],4,true⟩,⟨some g1,36,[aQ,aS,aQ,aS],4,true⟩]⟩ _;have hE0:=qym hE;have hE1: -9223372036854775808<=E∧E<=9223372036854775807:=by subst hE;split<;>omega
 refine A4 ?_;refine Pc (xU n hn1 hn2) ?_;refine A1 ?_;refine Pc (xU E hE1.1 hE1.2) ?_;refine yC fun g2=>?_;refine yB fun g3=>?_;refine Ss 2 ?_;refine Ss 3 ?_;refine A2 ?_;refine nV (nt:=47) (X:={i:Nat // i<=8∧n*256^i=n*256^(up%9)}) (fun⟨i,hi8,hi⟩=>[(1,dA g0),(2,dA g1),(4,dA g2),(5,dA g3)]) (fun⟨i,hi8,hi⟩=>[⟨some g0,55,[.int .i64 n,.int .i64 e,.int .u8 (up:Nat),.int .u8 (dn:Nat)],4,true⟩,⟨some g1,36,[aQ,aS,aQ,aS],4,true⟩,⟨some g2,34,ICc (n*256^i),2,true⟩,⟨some g3,34,ICc (E*256^0),2,true⟩]) ?_ ?_
 ·refine A6 ?_;refine El (ι:={i:Nat // i<=up%9}) (fun⟨i,hi⟩=>([(1,dA g0),(2,dA g1),(4,dA g2),(5,dA g3),(6,.int .u8 (i:Nat))],[⟨some g0,55,[.int .i64 n,.int .i64 e,.int .u8 (up:Nat),.int .u8 (dn:Nat)],4,true⟩,⟨some g1,36,[aQ,aS,aQ,aS],4,true⟩,⟨some g2,34,ICc (n*256^i),2,true⟩,⟨some g3,34,ICc (E*256^0),2,true⟩],up%9-i)) ⟨0,Nat.zero_le _⟩ ?_ (hL:=(ay [some 0,some 1,some 2,some 3] ⟨pR,pR,⟨_,rfl,aV (congrArg (fun z=>(⟨some g2,34,ICc z,2,true⟩:aF)) (show n*256^0=n by simp))⟩,⟨_,rfl,aV (congrArg (fun z=>(⟨some g3,34,ICc z,2,true⟩:aF)) (show E*256^0=E by simp))⟩,trivial⟩ rfl rfl));rintro⟨i,hi⟩;(try dsimp only);replace hi:i<=up%9:=hi;refine A6 ?_;refine(Dv ((up%9:Nat):Int)) (congrArg some (lW _ _ rfl rfl)) ?_;refine A2 ?_;refine Rs 22 ?_ ?_<;>intro haQ
  ·have hlt:i<up%9:=qaJ
   refine A6 ?_;refine Cd ?_ ?_<;>intro hbQ
   ·have hz0:n*256^i≠0:=by rw[Zn] at hbQ;have e:=of_decide_eq_true hbQ;omega
    refine A7 ?_;refine Zq (p:=uI (n*256^i).natAbs) (q:=[0]) rfl rfl rfl rfl rfl rfl (SA ae) (by rw[Bc];have:=SC (z:=n*256^i) rfl hn1 hn2 ae;show _+1<=_;omega) ?_;refine A1 ?_;refine CQ ?_;refine(Aq ((i+1:Nat):Int)) qlf ?_;refine A3 ?_;exact Nl ⟨i+1,hlt⟩ (hμ:=(by show up%9-(i+1)<up%9-i;omega)) (hL:=(ay [some 0,some 1,some 2,some 3] ⟨pR,pR,⟨_,rfl,aV (congrArg (fun c=>(⟨some g2,34,c,2,true⟩:aF)) (qcW hz0 i rfl).symm)⟩,pR,trivial⟩ rfl rfl))
   ·have hz0:n*256^i=0:=by rw[Zn] at hbQ;have e:=of_decide_eq_false hbQ;omega
    refine A5 ?_;exact Ni ⟨i,ae,by rw[show n=0 from(Int.mul_eq_zero.1 hz0).resolve_right (Int.pow_ne_zero ae)];simp⟩ [0,1,2,3]
  ·have hiu:i=up%9:=U2
   refine oH ?_;exact Ni ⟨i,ae,by rw[hiu]⟩ [0,1,2,3]
 rintro⟨i,hi8,hi⟩;show At _ ⟨47,[(1,dA g0),(2,dA g1),(4,dA g2),(5,dA g3)],[⟨some g0,55,[.int .i64 n,.int .i64 e,.int .u8 (up:Nat),.int .u8 (dn:Nat)],4,true⟩,⟨some g1,36,[aQ,aS,aQ,aS],4,true⟩,⟨some g2,34,ICc (n*256^i),2,true⟩,⟨some g3,34,ICc (E*256^0),2,true⟩]⟩ _;refine A7 ?_;refine El (ι:={j:Nat // j<=dn%9}) (fun⟨j,hj⟩=>([(1,dA g0),(2,dA g1),(4,dA g2),(5,dA g3),(7,.int .u8 (j:Nat))],[⟨some g0,55,[.int .i64 n,.int .i64 e,.int .u8 (up:Nat),.int .u8 (dn:Nat)],4,true⟩,⟨some g1,36,[aQ,aS,aQ,aS],4,true⟩,⟨some g2,34,ICc (n*256^i),2,true⟩,⟨some g3,34,ICc (E*256^j),2,true⟩],dn%9-j)) ⟨0,Nat.zero_le _⟩ ?_ (hL:=fE.auto);rintro⟨j,hj⟩;(try dsimp only);replace hj:j<=dn%9:=hj;refine A6 ?_;refine(Dv ((dn%9:Nat):Int)) (congrArg some (lW _ _ rfl rfl)) ?_;refine A3 ?_;refine Cd ?_ ?_<;>intro haQ
 ·have hlt:j<dn%9:=qaJ
  refine A7 ?_;refine Zq (p:=uI (E*256^j).natAbs) (q:=[0]) rfl rfl rfl rfl rfl rfl (SA (by have:=qks hE0 j;omega)) (by rw[Bc];have:=SC (z:=E*256^j) rfl hE1.1 hE1.2 ae;show _+1<=_;omega) ?_;refine A1 ?_;refine Ss 3 ?_;refine A5 ?_;refine(Aq ((j+1:Nat):Int)) qlf ?_;refine A3 ?_;exact Nl ⟨j+1,hlt⟩ (hμ:=(by show dn%9-(j+1)<dn%9-j;omega)) (hL:=(ay [some 0,some 1,some 2,some 3] ⟨pR,pR,pR,⟨_,rfl,aV (congrArg (fun c=>(⟨some g3,34,c,2,true⟩:aF)) (qcW (qks hE0 j) j rfl).symm)⟩,trivial⟩ rfl rfl))
 ·have hjd:j=dn%9:=U2
  subst hjd;refine A7 ?_;refine L2 2 0 ?_;refine L2 3 0 ?_;refine fJ [_,_] rfl rfl rfl (H9 (n*256^i) (E*256^(dn%9)) (qks hE0 _) (Nat.le_trans (SC rfl hn1 hn2 hi8) ae) (Nat.le_trans (SC rfl hE1.1 hE1.2 ae) ae)) ?_;refine mY ?_;refine Yd 1 ?_;exact congrArg (fun q=>Ending.returned (Q q)) (by rw[hi,hE];rfl)
def X3(n e:Int)(up dn:Nat)(hn1: -9223372036854775808<=n:=by omega)(hn2:n<=9223372036854775807:=by omega)(he1: -9223372036854775808<=e:=by omega)(he2:e<=9223372036854775807:=by omega)(hup:up<256:=by omega)(hdn:dn<256:=by omega):aG Tryz.prog 57 #[.agg #[.int .i64 n,.int .i64 e,.int .u8 (up:Nat),.int .u8 (dn:Nat)]] (Q (qL n e up dn)):=by
 refine vC 5 Tryz.func57 fun w=>?_;refine iH fun g0=>?_;refine rM fun g1=>?_;refine A4 ?_;refine L4 0 0 ?_;refine Pc (XZ n e up dn hn1 hn2 he1 he2 hup hdn) ?_;exact ZX
end Go.Proofs.YtaffcpfhedadhaaGreatDoor
namespace Go.Via
open Go
def sV(n:Int):Rat.divInt n 1=(n:Rat):=by have h:=Rat.num_divInt_den (n:Rat);rw[Rat.num_intCast,Rat.den_intCast] at h;exact h
def qc9(t:Rl)(a b:Bool):lC ⟨rl 0,t,a,b⟩= .agg #[aQ,aS,aQ,aS,aQ,aS,aQ,aS,.bool false,.bool (decide (t.p.num<0)),.string (bH t.p.num.natAbs),.bool false,.string (dm t.p),.bool (decide (t.r.num<0)),.string (bH t.r.num.natAbs),.bool false,.string (dm t.r),.bool t.n,.bool a,.bool b]:=by
 unfold lC rl;simp only[qeI,dm0,qeJ]
def qud(q:Rat):AU ⟨0,q,0,0⟩= .agg #[aQ,aS,aQ,aS,.bool (decide (q.num<0)),.string (bH q.num.natAbs),.bool false,.string (dm q),aQ,aS,aQ,aS,aQ,aS,aQ,aS]:=by
 unfold AU;simp only[qeI,dm0,qeJ]
def que(q:Rat):AU ⟨0,0,q,0⟩= .agg #[aQ,aS,aQ,aS,aQ,aS,aQ,aS,.bool (decide (q.num<0)),.string (bH q.num.natAbs),.bool false,.string (dm q),aQ,aS,aQ,aS]:=by
 unfold AU;simp only[qeI,dm0,qeJ]
def qwu(p q r:Rat):AU ⟨p,q,r,0⟩= .agg #[.bool (decide (p.num<0)),.string (bH p.num.natAbs),.bool false,.string (dm p),.bool (decide (q.num<0)),.string (bH q.num.natAbs),.bool false,.string (dm q),.bool (decide (r.num<0)),.string (bH r.num.natAbs),.bool false,.string (dm r),aQ,aS,aQ,aS]:=by
 unfold AU;simp only[qeI,dm0,qeJ]
def rz(n:Int):Rl:=rl (n:Rat)
def qwv{n:Int}(h1: -255<=n)(h2:n<=255):eU (rz n)<=2:=CU (nZ h1 h2) (Nat.le_refl _)
def eA1:PU:=⟨⟨rl 0,rz 4,false,false⟩,⟨0,((1:Int):Rat),0,0⟩⟩
def eB1:PU:=⟨⟨rl 0,rz 2,false,false⟩,⟨0,0,((3:Int):Rat),0⟩⟩
def eB2:PU:=⟨⟨rz 2,rz 4,true,false⟩,⟨((-4:Int):Rat),((2:Int):Rat),((3:Int):Rat),0⟩⟩
end Go.Via
namespace Go.Via
open Go
theorem quf(x:Rl):(((x.p.den:Int)*(x.p.den:Int))*(x.r.num*(x.r.den:Int))).natAbs=(x.p.den*x.p.den)*(x.r.num.natAbs*x.r.den):=by
 rw[Int.natAbs_mul,Int.natAbs_mul,Int.natAbs_mul];rfl
def qug{x:Rl}(h:0<=x.r):¬((x.p.den:Int)*(x.p.den:Int))*(x.r.num*(x.r.den:Int))<0:=by
 have h1:0<=x.r.num:=Rat.num_nonneg.2 h;have h2:0<=((x.p.den:Int)*(x.p.den:Int))*(x.r.num*(x.r.den:Int)):=Int.mul_nonneg (Int.mul_nonneg (Int.natCast_nonneg _) (Int.natCast_nonneg _)) (Int.mul_nonneg h1 (Int.natCast_nonneg _));omega
def qlA{x:Rl}(hn:x.n=false):(x.p.num*(x.r.den:Int)+((bU (((x.p.den:Int)*(x.p.den:Int))*(x.r.num*(x.r.den:Int))).natAbs:Nat):Int))/((x.p.den:Int)*(x.r.den:Int))=lT x:=by
 unfold lT;rw[if_neg (by rw[hn];decide),quf];simp only[Int.natCast_mul]
def qlB(x:Rl):(x.p.den:Int)*(x.r.den:Int)≠0:=Int.mul_ne_zero (by have:=x.p.den_pos;omega) (by have:=x.r.den_pos;omega)
def qaM{x y:Rl}{r:Rat}(h:uF x y=some r):(bK x=true∧bK y=true∧eU x<=1000∧eU y<=1000∧¬sgR x<0∧0<sgR y∧0<aY y (rl ((lT x+1:Int):Rat))∧x.n=false∧ji (lT x)<=4000)∧r=((lT x+1:Int):Rat):=by
 unfold uF at h
 split at h
 ·rename_i hc;exact⟨hc,by injection h with e;exact e.symm⟩
 ·cases h
section
variable{sm:Rl->Rl->Option Rat}{q:Qd}{i:Iv}
def F6{s:Int}(h:Ir sm q i=some s):aY i.f i.t<0∧∃r,sm i.f i.t=some r∧bY r<=5000∧s=sgR (zN q (rl r)):=by
 unfold Ir at h
 split at h
 ·rename_i hc
  refine⟨hc,?_⟩;rcases hs:sm i.f i.t with _|r
  ·rw[hs] at h;cases h
  ·rw[hs] at h;simp only[Option.bind_some] at h
   split at h
   ·rename_i h5;injection h with e;exact⟨r,rfl,h5,e.symm⟩
   ·cases h
 ·cases h
variable{x:Rl}{k:Nat}{rs:List Rl}{rest:Iv}{o l:List (Iv×Int)}
def qrh(hx:rs[k]? =some x)(hin:Jl i x=false)(h:gG sm q i (rs.drop k) rest o=some l):gG sm q i (rs.drop (k+1)) rest o=some l:=by
 rw[yK hx,gG,if_pos hin] at h;exact h
def qri(hx:rs[k]? =some x)(hin:Jl i x=true)(hlt:aY rest.f x<0)(h:gG sm q i (rs.drop k) rest o=some l):∃s,Ir sm q ⟨rest.f,x,rest.fo,true⟩=some s∧gG sm q i (rs.drop (k+1)) ⟨x,rest.t,true,rest.tp⟩ (o++[(⟨rest.f,x,rest.fo,true⟩,s)]++[(⟨x,x,false,false⟩,0)])=some l:=by
 rw[yK hx,gG,if_neg (by rw[hin];decide),if_pos hlt] at h;rcases hp:Ir sm q ⟨rest.f,x,rest.fo,true⟩ with _|s
 ·rw[hp] at h;cases h
 ·rw[hp] at h;exact⟨s,rfl,by rw[List.append_assoc];exact h⟩
def qrj(hx:rs[k]? =some x)(hin:Jl i x=true)(hge:¬aY rest.f x<0)(h:gG sm q i (rs.drop k) rest o=some l):gG sm q i (rs.drop (k+1)) ⟨x,rest.t,true,rest.tp⟩ (o++[(⟨x,x,false,false⟩,0)])=some l:=by
 rw[yK hx,gG,if_neg (by rw[hin];decide),if_neg hge] at h;exact h
def qda(ho:ja rest=true)(h:gG sm q i (rs.drop rs.length) rest o=some l):∃s,Ir sm q rest=some s∧l=o++[(rest,s)]:=by
 rw[List.drop_length,gG,if_pos ho] at h;rcases hp:Ir sm q rest with _|s
 ·rw[hp] at h;cases h
 ·rw[hp] at h;injection h with e;exact⟨s,rfl,e.symm⟩
def qdb(ho:ja rest=false)(h:gG sm q i (rs.drop rs.length) rest o=some l):l=o:=by
 rw[List.drop_length,gG,if_neg (by rw[ho];decide)] at h
 injection h with e;exact e.symm
end
def qlC{q:Qd}(h2:q.c2≠0)(hr:q.c1/(-2*q.c2)*(q.c1/(-2*q.c2))-q.c0/q.c2=0):dG q=[rl (q.c1/(-2*q.c2))]:=by
 unfold dG;rw[if_neg h2];dsimp only;rw[hr,if_neg au,if_pos rfl]
end Go.Via
namespace Go.Proofs.YtaffcpfhedadhaaGreatDoor
open Go Go.RowKit Go.Via
def Dl(q:Rat):aG Tryz.prog 279 #[Q q] (I q.num):=by
 refine vC 5 Tryz.func279 fun w=>?_;refine iH fun g0=>?_;refine Al 2 QH (fun g1=>?_);refine A5 ?_;refine L2 0 0 ?_;refine mY ?_;refine Ed2 1 ?_;exact rfl
def PI(z:Int)(h0:¬z<0)(hz:nb z.natAbs<=33554432:=by omega):aG Tryz.prog 280 #[I z] (.tuple #[I ((bU z.natAbs:Nat):Int),.int .i64 0]):=by
 refine vC 11 Tryz.func280 fun w=>?_;refine lQ fun g0=>?_;refine Al 2 QH (fun g1=>?_);refine lh ?_;refine Cd ?_ ?_<;>intro haQ
 ·exact absurd (of_decide_eq_true haQ) h0
 ·refine A6 ?_;refine Pc (CO z.natAbs hz) ?_;refine Pc (wB false (bU z.natAbs)) ?_;refine uq ?_;refine bT rfl (bn 1 rfl rfl zy (vs:=[_,_]) rfl rfl (Nat.le_of_ble_eq_true rfl) rfl) (ax rfl) (fun w hL=>⟨?_,hL.below⟩);exact rfl
def AO(p q:Rat)(hp:bY p<=4194303:=by omega)(hq:bY q<=4194303:=by omega):aG Tryz.prog 234 #[Q p,Q q] (Q (p/q)):=by
 refine nX 14 Tryz.func234 fun w=>?_;refine iH fun g0=>?_;refine Bp 4 (fun g1=>?_);refine lg fun g2=>?_;refine A4 ?_;refine jH ?_;refine Pc (CS p q hp hq) ?_;refine A3 ?_;refine Ac fun g3=>?_;refine Ss 3 ?_;refine A5 ?_;refine L4 3 0 ?_;exact FT
def U6(z:Int)(hz:ji z<=8388608:=by omega):aG Tryz.prog 261 #[I z] (Q (z:Rat)):=by
 refine vC 12 Tryz.func261 fun w=>?_;refine lQ fun g0=>?_;refine rM fun g1=>?_;refine A3 ?_;refine Dq [3000000] [0,1,2,3,4,6,7,5,8] ?_;refine L2 0 0 ?_;refine Pc (lY 1) ?_;refine Pc (Az z 1 hz (Nat.le_trans (DL ae ae) ae)) ?_;refine A2 ?_;refine aP 9 (Q (z:Rat)) rfl (congrArg Q (sV z)) ?_;refine lg fun g2=>?_;refine Ss 2 ?_;refine A6 ?_;refine L4 2 0 ?_;exact ZX
def U7(x:Rl)(hx:eU x<=1000)(h0:0<=x.r)(hn:x.n=false):aG Tryz.prog 260 #[RV x] (I (lT x)):=by
 have e1:=Nat.le_trans (pM x) hx;have e2:=Nat.le_trans (wG x) hx;have n1:=nS e1;have d1:=kT e1;have n2:=nS e2;have d2:=kT e2;have z1:=lV d1 d1;have z2:=lV n2 d2;have z3:=lV z1 z2;have z4:=lV n1 d2;have z5:ji ((bU (((x.p.den:Int)*(x.p.den:Int))*(x.r.num*(x.r.den:Int))).natAbs:Nat):Int)<=4000:=Bq (Nat.le_trans (qA _) z3);have z6:=LD z4 z5;have z7:=lV d1 d2;refine vC 59 Tryz.func260 fun w=>?_;refine nI fun g0=>?_;refine Al 2 QH (fun g1=>?_);refine A3 ?_;refine Dq [3000000] [0,1,3,4,2,5,6,7,8,9] ?_;refine uu ?_;refine uu ?_;refine Pc (Dl x.p) ?_;refine Pc (jr x.p) ?_;refine yC fun g2=>?_;refine yB fun g3=>?_;refine Ss 2 ?_;refine oK ?_;refine Dq [3000000] [0,1,3,4,2,5,6,7,8,9] ?_;refine oM ?_;refine oM ?_;refine Pc (Dl x.r) ?_;refine Pc (jr x.r) ?_;refine Al 2 QH (fun g4=>?_);refine Al 2 QH (fun g5=>?_);refine Ss 4 ?_;refine Ss 5 ?_;refine A3 ?_;refine Dq [3000000] [0,1,3,4,2,5,6,7,8,9,11,12,10,13] ?_;refine L2 3 0 ?_;refine L2 3 0 ?_;refine L2 4 0 ?_;refine L2 5 0 ?_;refine Pc (lI (x.p.den:Int) (x.p.den:Int)) ?_;refine Pc (lI x.r.num (x.r.den:Int)) ?_;refine Pc (lI ((x.p.den:Int)*(x.p.den:Int)) (x.r.num*(x.r.den:Int))) ?_;refine Pc (PI (((x.p.den:Int)*(x.p.den:Int))*(x.r.num*(x.r.den:Int))) (qug h0) (Nat.le_trans z3 ae)) ?_;refine A2 ?_;refine Al 2 QH (fun g6=>?_);refine Ss 6 ?_;refine A6 ?_;refine L2 2 0 ?_;refine L2 5 0 ?_;refine Pc (lI x.p.num (x.r.den:Int)) ?_;refine Al 2 QH (fun g7=>?_);refine Ss 7 ?_;refine A9 ?_;refine Cd ?_ ?_<;>intro haQ
 ·exact absurd haQ (by rw[hn];decide)
 ·refine A1 ?_;refine L2 7 0 ?_;refine L2 6 0 ?_;refine Pc (yD (x.p.num*(x.r.den:Int)) ((bU (((x.p.den:Int)*(x.p.den:Int))*(x.r.num*(x.r.den:Int))).natAbs:Nat):Int)) ?_;refine Ss 7 ?_;refine A3 ?_;refine Dq [3000000] [0,1,2,3,4,5,6,9,10,11,7,12,8,13] ?_;refine L2 7 0 ?_;refine L2 3 0 ?_;refine L2 5 0 ?_;refine Pc (lI (x.p.den:Int) (x.r.den:Int)) ?_;refine Pc (y8 (x.p.num*(x.r.den:Int)+((bU (((x.p.den:Int)*(x.p.den:Int))*(x.r.num*(x.r.den:Int))).natAbs:Nat):Int)) ((x.p.den:Int)*(x.r.den:Int)) ae ae (qlB x)) ?_;refine A2 ?_;refine aP 55 (I (lT x)) rfl (congrArg I (qlA hn)) ?_;refine Al 2 QH (fun g8=>?_);refine Al 2 QH (fun g9=>?_);refine Ss 8 ?_;refine A1 ?_;refine Ss 9 ?_;refine A6 ?_;refine L2 8 0 ?_;refine mY ?_;refine Ed2 1 ?_;exact rfl
def JL(x y:Rl)(hx:eU x<=1000)(hy:eU y<=1000)(h0:0<=x.r)(hn:x.n=false)(h1:¬sgR x<0)(h2:0<sgR y)(h3:0<aY y (rl ((lT x+1:Int):Rat)))(hf:ji (lT x)<=4000:=by omega):aG Tryz.prog 235 #[RV x,RV y] (Q ((lT x+1:Int):Rat)):=by
 have f1:ji (lT x+1)<=4002:=LD hf (DL (z:=1) ae ae);have f2:bY ((lT x+1:Int):Rat)<=4002:=qmX f1 ae;refine nX 81 Tryz.func235 fun w=>?_;refine nI fun g0=>?_;refine Bp 9 (fun g1=>?_);refine lg fun g2=>?_;refine A6 ?_;refine L9 0 0 ?_;refine Pc (CW x) ?_;refine A2 ?_;refine Rs 18 ?_ ?_<;>intro haQ
 ·exact absurd (of_decide_eq_true haQ) h1
 ·refine lh ?_;refine L9 1 0 ?_;refine Pc (CW y) ?_;refine A4 ?_;refine Cd ?_ ?_<;>intro hbQ
  ·exact absurd (of_decide_eq_true hbQ) (by show¬sgR y<=0;omega)
  ·refine A5 ?_;refine L9 0 0 ?_;refine Pc (U7 x hx h0 hn) ?_;refine yB fun g3=>?_;refine oK ?_;refine Dq [3000000] [0,1,2,3,4,5] ?_;refine L2 3 0 ?_;refine Pc (lY 1) ?_;refine Pc (yD (lT x) 1 ae (Nat.le_trans (DL ae ae) ae)) ?_;refine Pc (U6 (lT x+1)) ?_;refine yE fun g4=>?_;refine Ss 4 ?_;refine A5 ?_;refine L9 1 0 ?_;refine L4 4 0 ?_;refine Pc (xW y ((lT x+1:Int):Rat)) ?_;refine A3 ?_;refine Cd ?_ ?_<;>intro hcQ
   ·refine A2 ?_;refine L4 4 0 ?_;refine uo ?_;refine Yd 2 ?_;exact rfl
   ·exact absurd h3 (of_decide_eq_false hcQ)
def xY(i:Iv)(hi:gV i<=1000)(hf:bK i.f=true)(ht:bK i.t=true):aG Tryz.prog 169 #[lC i] (.int .i64 (if ja i=true then 0 else 10)):=by
 have i1:=Nat.le_trans (ig i) hi;have i2:=Nat.le_trans (gW i) hi;refine vC 33 Tryz.func169 fun w=>?_;refine qB fun g0=>?_;refine A7 ?_;refine L9 0 0 ?_;refine Pc (jd i.f) ?_;refine aP 6 (.int .i64 0) rfl (congrArg (Value.int .i64) (if_pos hf)) ?_;refine A2 ?_;refine Rs 8 ?_ ?_<;>intro haQ
 ·exact absurd haQ au
 ·refine A1 ?_;refine L9 0 9 ?_;refine Pc (jd i.t) ?_;refine aP 11 (.int .i64 0) rfl (congrArg (Value.int .i64) (if_pos ht)) ?_;refine A4 ?_;refine Cd ?_ ?_<;>intro hbQ
  ·exact absurd hbQ au
  ·refine A5 ?_;refine FW ?_;refine L9 0 9 ?_;refine Pc (dF i.f i.t) ?_;refine A9 ?_;refine Rs 21 ?_ ?_<;>intro hcQ
   ·refine A21 ?_;exact XQ
   ·refine A3 ?_;refine Rs 24 ?_ ?_<;>intro hdQ
    ·refine A3 ?_;refine Rs 27 ?_ ?_<;>intro heQ
     ·refine II ?_;exact XQ
     ·refine A7 ?_;refine Cd ?_ ?_<;>intro hfQ
      ·refine A7 ?_;exact XQ
      ·refine A8 ?_;exact XQ
    ·refine A19 ?_;exact XQ
def Dn(i:Iv)(x:Rl)(hi:gV i<=50000:=by omega)(hx:eU x<=50000:=by omega):aG Tryz.prog 171 #[lC i,RV x] (.bool (Jl i x)):=by
 have i1:=Nat.le_trans (ig i) hi;have i2:=Nat.le_trans (gW i) hi;refine nX 39 Tryz.func171 fun w=>?_;refine qB fun g0=>?_;refine Bp 9 (fun g1=>?_);refine A4 ?_;refine qjy ?_;refine Pc (dF i.f x ae hx) ?_;refine Pc (dF x i.t hx) ?_;exact qqX
def PK(sm:Rl->Rl->Option Rat)(hsm:∀x y r,sm x y=some r->aG Tryz.prog 235 #[RV x,RV y] (Q r))(x y:Rl)(hx:eU x<=50000)(hy:eU y<=50000)(h:aY x y<0)(r:Rat)(hr:sm x y=some r):aG Tryz.prog 206 #[RV x,RV y] (.tuple #[Q r,.int .i64 0]):=by
 refine nX 14 Tryz.func206 fun w=>?_;refine nI fun g0=>?_;refine Bp 9 (fun g1=>?_);refine lg fun g2=>?_;refine A6 ?_;refine L9 0 0 ?_;refine L9 1 0 ?_;refine Pc (dF x y hx hy) ?_;refine A3 ?_;refine Cd ?_ ?_<;>intro haQ
 ·exact absurd (of_decide_eq_true haQ) ae
 ·refine A4 ?_;refine L9 0 0 ?_;refine L9 1 0 ?_;refine Pc (hsm x y r hr) ?_;refine uo ?_;refine bT rfl (bn 2 rfl rfl BC (vs:=[_,_,_,_]) rfl rfl (Nat.le_of_ble_eq_true rfl) rfl) (ax rfl) (fun w hL=>⟨?_,hL.below⟩);exact rfl
def zo(sm:Rl->Rl->Option Rat)(hsm:∀x y r,sm x y=some r->aG Tryz.prog 235 #[RV x,RV y] (Q r))(q:Qd)(i:Iv)(s:Int)(h:Ir sm q i=some s)(hq:ve q<=10000:=by omega)(hi:gV i<=1000:=by omega):aG Tryz.prog 172 #[uf q,lC i] (SgV (i,s)):=by
 have i1:=Nat.le_trans (ig i) hi;have i2:=Nat.le_trans (gW i) hi;obtain⟨hlt,r,hr,hr5,hs⟩:=F6 h;have hr6:eU (rl r)<=5000:=CU hr5 ae;refine nX 27 Tryz.func172 fun w=>?_;refine kE fun g0=>?_;refine Bp 20 (fun g1=>?_);refine Al 21 qu7 (fun g2=>?_);refine A5 ?_;refine L9 1 0 ?_;refine Al 9 QI (fun g3=>?_);refine Ss 3 ?_;refine A6 ?_;refine L9 1 0 ?_;refine A1 ?_;refine L9 1 9 ?_;refine Pc (PK sm hsm i.f i.t ae ae hlt r hr) ?_;refine A3 ?_;refine yE fun g4=>?_;refine Ss 4 ?_;refine A9 ?_;refine Cd ?_ ?_<;>intro haQ
 ·refine A1 ?_;refine L4 4 0 ?_;refine Pc (kJ r) ?_;refine oK ?_;refine Di [] ?_;refine zO 1 0 ?_;refine xg 0 0 ?_;refine L9 3 0 ?_;refine Pc (FX q (rl r) Rat.le_refl hq) ?_;refine(Bu [(0,_),(1,_)]) (qnm) ?_;refine jq ?_;refine aH rfl (bn 2 rfl rfl qgg (vs:=[_,_,_,_,_,_,_,_,_,_,_,_,_,_,_,_,_,_,_,_,_]) rfl rfl (Nat.le_of_ble_eq_true rfl) rfl) (fun w hL=>⟨?_,hL.below⟩);rw[hs];rfl
 ·exact qar
def ET(q:Qd)(hq:ve q<=1000)(h2:q.c2≠0)(hr:q.c1/(-2*q.c2)*(q.c1/(-2*q.c2))-q.c0/q.c2=0):bQ Tryz.prog 205 [] [uf q] (SR (dG q).length) (fun z=> .tuple #[z.v,.int .i64 0]) (fun z=>[⟨z.b,38,ai kQ (dG q),z.n,true⟩]):=by
 refine⟨ak,fun w hL0=>?_⟩;have q0:=Nat.le_trans (qE q) hq;have q1:=Nat.le_trans (qF q) hq;have q2:=Nat.le_trans (rf q) hq;have hR:=qlC h2 hr;have m2:bY (-2:Rat)<=2:=nZ (z:= -2) ae ae;have z1:=xC m2 q2;have z2:=Gy q1 z1;have z3:=xC z2 z2;have z4:=Gy q0 q2;refine cB1 98 Tryz.func205 hL0 ?_;refine kE fun g0=>?_;refine A6 ?_;refine(Bu []) (Fb) ?_;refine aP 12 (Q 0) rfl Fa.symm ?_;refine rM fun g1=>?_;refine Ss 1 ?_;refine A7 ?_;refine qaF ?_;refine A1 ?_;refine Rs 18 ?_ ?_<;>intro haQ
 ·exact absurd (of_decide_eq_true haQ) h2
 ·refine A18 ?_;refine qaF ?_;refine A1 ?_;refine Rs 35 ?_ ?_<;>intro hbQ
  ·exact absurd (of_decide_eq_true hbQ) h2
  ·refine oH ?_;refine qaF ?_;refine A3 ?_;refine Cd ?_ ?_<;>intro hcQ
   ·exact absurd (of_decide_eq_true hcQ) h2
   ·refine A4 ?_;refine Dq [3000000] [0,1,3,4,2,5,6,7,8] ?_;refine oM ?_;refine rV ?_;refine Pc (fF (-2)) ?_;refine aP 56 (Q (-2)) rfl (congrArg Q au) ?_;refine Pc (bJ (-2) q.c2) ?_;refine Pc (AO q.c1 (-2*q.c2)) ?_;refine lg fun g2=>?_;refine jq ?_;refine Dq [3000000] [0,1,3,4,5,6,2,7,8,9,10] ?_;refine L4 2 0 ?_;refine L4 2 0 ?_;refine uu ?_;refine rV ?_;refine Pc (bJ (q.c1/(-2*q.c2)) (q.c1/(-2*q.c2))) ?_;refine Pc (AO q.c0 q.c2) ?_;refine Pc (dZ ((q.c1/(-2*q.c2))*(q.c1/(-2*q.c2))) (q.c0/q.c2)) ?_;refine Ac fun g3=>?_;refine CP ?_;refine Pc (fF 1) ?_;refine yE fun g4=>?_;refine Ss 4 ?_;refine A5 ?_;refine L4 3 0 ?_;refine Pc (dP ((q.c1/(-2*q.c2))*(q.c1/(-2*q.c2))-q.c0/q.c2)) ?_;refine aP 72 (.int .i64 0) rfl (congrArg (Value.int .i64) (by rw[hr];rfl)) ?_;refine A9 ?_;refine Cd ?_ ?_<;>intro hdQ
    ·exact absurd (of_decide_eq_true hdQ) au
    ·refine A6 ?_;refine Cd ?_ ?_<;>intro heQ
     ·refine A2 ?_;refine L4 2 0 ?_;refine Pc (kJ (q.c1/(-2*q.c2))) ?_;refine(Bl 9 [(0,_)]) (TA) (fun g5=>?_);refine A7 ?_;refine bT rfl (ax rfl) (ax rfl) (fun w hL=>⟨⟨some g5,9,1,by rw[hR];exact Nat.le_refl _⟩,?_,hL.picks [some 5] ⟨⟨_,rfl,aV (by rw[show ai kQ (dG q)=_ from congrArg _ hR];rfl)⟩,trivial⟩ rfl rfl⟩);show Ending.returned (.tuple #[aB (some g5) 0 _ 1,_])=Ending.returned (.tuple #[aB (some g5) 0 (dG q).length 1,_]);rw[hR];rfl
     ·exact absurd au (of_decide_eq_false heQ)
def xZ(q:Qd)(hrt:bQ Tryz.prog 205 [] [uf q] (SR (dG q).length) (fun z=> .tuple #[z.v,.int .i64 0]) (fun z=>[⟨z.b,38,ai kQ (dG q),z.n,true⟩])):bQ Tryz.prog 170 [] [uf q] (SR (dG q).length) (fun z=> .tuple #[z.v,.int .i64 0]) (fun z=>[⟨z.b,38,ai kQ (dG q),z.n,true⟩]):=by
 refine Qg 8 Tryz.func170 fun w hL0=>?_;refine kE fun g0=>?_;refine A6 ?_;refine xg 0 0 ?_;refine(Sc []) hrt (fun z=>?_);obtain⟨rb,rN,rc,hrc⟩:=z;refine A7 ?_;refine bT rfl (ax rfl) (ax rfl) (fun w hL=>⟨⟨rb,rN,rc,hrc⟩,?_,hL.pk [some 1]⟩);exact rfl
end Go.Proofs.YtaffcpfhedadhaaGreatDoor
