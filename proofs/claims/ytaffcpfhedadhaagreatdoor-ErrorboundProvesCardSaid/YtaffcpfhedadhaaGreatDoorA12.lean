/-
  Part 12 (chapter 32): lemmas, walks. Each theorem states its own conditions.
-/
import Derived.Sort.Grow
import Derived.Sort.EncStr
import Derived.Shelf.SlSortCmp.WholeK
import Derived.Shelf.SlSortCmp.NoneTotal
import Derived.Test.YtaffcpfhedadhaaGreatDoorA05
import Derived.Test.YtaffcpfhedadhaaGreatDoorA06
import Derived.Test.YtaffcpfhedadhaaGreatDoorA08
import Derived.Test.YtaffcpfhedadhaaGreatDoorA11
set_option linter.all false
set_option maxRecDepth 20000
set_option maxHeartbeats 20000000
namespace Go.Via
variable[Mo]
open Go Go.RowKit Go.Sort Go.Proofs
def bf.rowMod{B:Bs}{w w':World}{L:List aG}(h:bf B L w){k:Nat}{b:aG}(hk:L[k]? =some b)(ho:b.own=true){g:Nat}(hg:b.base=some g)(hn0:b.n≠0)(f:Array Value->Array Value)(cs':List Value)
 (hf:∀cur:Array Value,cur.size=b.n->cur.toList.take b.cs.length=b.cs->(f cur).size=b.n∧(f cur).toList.take cs'.length=cs')
 (h1:w'.os=w.os)(h2:w'.tape=w.tape)(h3:w'.output=w.output)(h4:w.heap.size<=w'.heap.size)(h5:∀i,i<w.heap.size->i≠g->w'.heap[i]? =w.heap[i]?)
 (h6:∀cur:Array Value,w.heap[g]? =some (.cells cur b.e (0,0))->w'.heap[g]? =some (.cells (f cur) b.e (0,0)))(h7:w.drawn<=w'.drawn:=by first|exact Nat.le_refl _|exact Nat.le_add_right _ _):bf B (L.set k {b with cs:=cs'}) w':=by
 obtain⟨cur,⟨e',fr,a1,a2,_⟩,a3,a4⟩:=((h.blk k b hk).1 g hg).cells (.inl hn0);obtain⟨rfl,rfl⟩:=a2 ho;obtain⟨b1,b2⟩:=hf cur a3 a4;have hs:=h.set hk ho hg (f cur) cs' b1 b2;have hh:=setRow_heap w g cur (f cur) b.e (0,0) a1;have hsz:(w.setRow g (f cur)).heap.size=w.heap.size:=by simp
 refine hs.same ⟨h1,h2,h3,by rw[hsz];exact h4,fun i hi=>?_,fun _=>h7⟩
 rw[hsz] at hi
 by_cases e:i=g
 ·subst e;rw[h6 cur a1,hh]
 ·rw[h5 i hi e,setRow_other w g i _ e]
def SB(l:List D6):List Value:=l.map fun s=> .string (lZ s)
def YF(l:List D6):(SB l).length=l.length:=by simp[SB]
abbrev SBk(b:Option Nat)(l:List D6)(n:Nat):aG:=⟨b,9,SB l,n,true⟩
def bf.loose{B:Bs}{w:World}{L:List aG}(h:bf B L w){k:Nat}{b:aG}(hk:L[k]? =some b)(ho:b.own=true){g:Nat}(hg:b.base=some g)(hn0:b.n≠0)(j:Nat):w.frozen? ⟨g,j,none⟩=false:=by
 obtain⟨cur,⟨e',fr,a1,a2,_⟩,a3,a4⟩:=((h.blk k b hk).1 g hg).cells (.inl hn0);obtain⟨rfl,rfl⟩:=a2 ho;simp[World.frozen?,a1]
def Tf{d:List D6}{cur:Array Value}(h:d.length<=cur.size):(putCells encStr 0 d.toArray cur).size=cur.size∧(putCells encStr 0 d.toArray cur).toList.take (SB d).length=SB d:=by
 refine⟨by simp[putCells],?_⟩
 apply List.ext_getElem?
 intro i;rw[YF,List.getElem?_take]
 split
 ·rename_i hi
  unfold SB;rw[List.getElem?_map,List.getElem?_eq_getElem hi,Array.getElem?_toList];unfold putCells;rw[Array.getElem?_mapIdx,Array.getElem?_eq_getElem (by omega)];simp only[Option.map_some,Nat.zero_le,true_and,List.size_toArray,Nat.zero_add,hi,if_true,Nat.sub_zero];rw[getElem!_pos d.toArray i (by simpa using hi)]
  rfl
 ·rename_i hi
  unfold SB;rw[List.getElem?_map,List.getElem?_eq_none (by omega)]
  rfl
def bf.putRow{B:Bs}{w:World}{L:List aG}(h:bf B L w){k g n m:Nat}{l l':List D6}{os:Array Obj}(hk:L[k]? =some (SBk (some g) l n))(hl:l'.length<=n)(hn0:n≠0):
 bf B (L.set k (SBk (some g) l' n)) (grow (putRow encStr (Sort.ahead w m) g 0 l'.toArray) os):=by
 have hlt:=h.lt hk rfl;have e1:(grow (Go.Sort.putRow encStr (Sort.ahead w m) g 0 l'.toArray) os).heap=(w.heap.modify g (onCells (putCells encStr 0 l'.toArray)))++os:=rfl;refine h.rowMod hk rfl rfl hn0 (putCells encStr 0 l'.toArray) (SB l') (fun cur hc _=>by
 have hc':cur.size=n:=hc;obtain⟨p1,p2⟩:=Tf (d:=l') (cur:=cur) (by omega);exact⟨p1.trans hc,p2⟩) rfl rfl rfl (by rw[e1];simp) (fun i hi hne=>?_) (fun cur hcur=>?_)
 ·rw[e1,Array.getElem?_append_left (by simpa using hi),Array.getElem?_modify,if_neg (fun e=>hne e.symm)]
 ·rw[e1,Array.getElem?_append_left (by simpa using hlt),Array.getElem?_modify,if_pos rfl,hcur]
  rfl
end Go.Via
namespace Go.Via
open Go Go.RowKit Go.Sort Go.Shelf Go.Proofs
section
variable{α:Type}[Inhabited α]{c:α->List Value}{k:Nat}
def BU{α:Type}[Inhabited α]{l:List α}{i:Nat}(h:i<l.length):l.toArray[i]! =l[i]:=by
 rw[getElem!_pos l.toArray i (by simpa using h)];rfl
def YG{α:Type}[Inhabited α]{l:List α}{i:Nat}{x:α}(h:l[i]? =some x):l[i]! =x:=by
 rw[List.getElem!_eq_getElem?_getD,h];rfl
def qbo(h:jh α c k){l:List α}{t:Nat}(ht:t<l.length*k):∃x,l[t/k]? =some x∧(ah c l)[t]? =(c x)[t%k]? :=by
 have k0:0<k:=Nat.pos_of_ne_zero (by rintro rfl;simp at ht);have hi:t/k<l.length:=Nat.div_lt_of_lt_mul (by rw[Nat.mul_comm];exact ht);have hx:l[t/k]? =some l[t/k]:=List.getElem?_eq_getElem hi;refine⟨_,hx,?_⟩;have hm:t%k<k:=Nat.mod_lt _ k0;rw[<-h.get hx,List.getElem?_take,if_pos hm,List.getElem?_drop]
 congr 1
 rw[Nat.mul_comm];exact(Nat.div_add_mod t k).symm
def Ti(h:jh α c k)(l:List α):Go.Sort.flatK c k l.toArray=(ah c l).toArray:=by
 refine Go.Sort.ext_get! (by simp[h.length]) fun t ht=>?_
 have ht':t<l.length*k:=(by simpa using ht);obtain⟨x,hx,hc⟩:=qbo h ht';rw[get_flatK _ _ _ _ (by simpa using ht')];have k0:0<k:=Nat.pos_of_ne_zero (by rintro rfl;simp at ht');have hm:t%k<(c x).length:=(by rw[h.len];exact Nat.mod_lt _ k0);have hi:t/k<l.length:=(List.getElem?_eq_some_iff.1 hx).1;rw[BU hi,(List.getElem?_eq_some_iff.1 hx).2,YG (List.getElem?_eq_getElem hm)];have hr:t<(ah c l).length:=(by rw[h.length];exact ht');rw[BU hr];rw[List.getElem?_eq_getElem hr,List.getElem?_eq_getElem hm] at hc;exact(Option.some.inj hc).symm
def Oj(h:jh α c k){B:Bs}{w:World}{L:List aG}(hL:bf B L w){j g e n:Nat}{l:List α}(hk:L[j]? =some ⟨some g,e,ah c l,n,true⟩)(hn0:n≠0):HoldsK c k w g 0 l.toArray:=by
 unfold HoldsK;rw[Ti h];intro t ht;have ht':t<(ah c l).length:=by simpa using ht
 obtain⟨g',hg',h2⟩:=hL.cell (k:=j) hk (List.getElem?_eq_getElem ht');cases hg';rw[Nat.zero_add];exact⟨by rw[h2,BU ht'];rfl,hL.loose hk rfl rfl hn0 t⟩
def qeO{vs:List Value}{cur:Array Value}(h:vs.length<=cur.size):(putCells id 0 vs.toArray cur).size=cur.size∧(putCells id 0 vs.toArray cur).toList.take vs.length=vs:=by
 refine⟨by simp[putCells],?_⟩
 apply List.ext_getElem?
 intro i;rw[List.getElem?_take]
 split
 ·rename_i hi
  rw[List.getElem?_eq_getElem hi,Array.getElem?_toList];unfold putCells;rw[Array.getElem?_mapIdx,Array.getElem?_eq_getElem (by omega)];simp only[Option.map_some,Nat.zero_le,true_and,List.size_toArray,Nat.zero_add,hi,if_true,Nat.sub_zero];rw[BU hi]
  rfl
 ·rename_i hi
  rw[List.getElem?_eq_none (by omega)]
def Fb(h:jh α c k){B:Bs}{w:World}{L:List aG}(hL:bf B L w){j g e n m:Nat}{l l':List α}{os:Array Obj}(hk:L[j]? =some ⟨some g,e,ah c l,n,true⟩)(hl:(ah c l').length<=n)(hn0:n≠0):
 bf B (L.set j ⟨some g,e,ah c l',n,true⟩) (sortWorldK c k w g 0 m l'.toArray os):=by
 have hlt:=hL.lt hk rfl;have e0:sortWorldK c k w g 0 m l'.toArray os=grow (Go.Sort.putRow id (Sort.ahead w m) g 0 (ah c l').toArray) os:=by
  unfold sortWorldK Go.Sort.putRowK;rw[Ti h]
 rw[e0];have e1:(grow (Go.Sort.putRow id (Sort.ahead w m) g 0 (ah c l').toArray) os).heap=(w.heap.modify g (onCells (putCells id 0 (ah c l').toArray)))++os:=rfl;refine hL.rowMod hk rfl rfl hn0 (putCells id 0 (ah c l').toArray) (ah c l') (fun cur hc _=>by
 have hc':cur.size=n:=hc;obtain⟨p1,p2⟩:=qeO (vs:=ah c l') (cur:=cur) (by omega);exact⟨p1.trans hc,p2⟩) rfl rfl rfl (by rw[e1];simp) (fun i hi hne=>?_) (fun cur hcur=>?_) (Nat.le_add_right _ _)
 ·rw[e1,Array.getElem?_append_left (by simpa using hi),Array.getElem?_modify,if_neg (fun e=>hne e.symm)]
 ·rw[e1,Array.getElem?_append_left (by simpa using hlt),Array.getElem?_modify,if_pos rfl,hcur]
  rfl
def mo1:Mo:=⟨True⟩
def qbp[Mo](hm:Mo.p){w w':World}(h:fP w.heap.size w w'):∃q os',w'=grow (w.drewN q) os':=by
 refine⟨w'.drawn-w.drawn,w'.heap.extract w.heap.size w'.heap.size,?_⟩;have hh:w'.heap=w.heap++w'.heap.extract w.heap.size w'.heap.size:=by
  apply Array.ext_getElem?
  intro i
  by_cases hi:i<w.heap.size
  ·rw[Array.getElem?_append_left hi,h.block i hi]
  ·rw[Array.getElem?_append_right (by omega),Array.getElem?_extract];have hs:=h.size
   split
   ·congr 1;omega
   ·rename_i h2
    have:w'.heap.size<=i:=(by omega);rw[Array.getElem?_eq_none this]
 cases w';have a1:=h.os;have a2:=h.tape;have a3:=h.output;have a4:=h.drawn hm;dsimp only at a1 a2 a3 a4 hh;unfold grow World.drewN;dsimp only;rw[<-hh,a1,a2,a3]
 congr 1
 omega
def WP[Mo](hm:Mo.p){P:Program}{g:Nat}{cf:α->α->Int}(H:∀x y,aP P g #[.agg (c x).toArray,.agg (c y).toArray] (.int .i64 (cf x y)))(blk off size:Nat)(w:World):CmpLays P g #[] c k cf blk off size w:=fun m os dk hs x y=>by
 refine((H x y).2 _).mono ?_;rintro e w' ⟨he,hb⟩;exact⟨he,qbp hm hb⟩
def qeP{l:List α}{d:Array α}(h:PermIn 0 l.toArray.size l.toArray d):d.toList.Perm l:=by
 obtain⟨h1,_,h3⟩:=h;have e1:d.extract 0 l.toArray.size=d:=by rw[<-h1];simp
 have e2:l.toArray.extract 0 l.toArray.size=l.toArray:=(by simp);rw[e1,e2] at h3;exact h3
def YH{lt:α->α->Bool}{n:Nat}{d:Array α}(h:SortedIn lt 0 n d)(hn:d.size=n):d.toList.Pairwise fun x y=>lt y x=false:=by
 rw[List.pairwise_iff_getElem];intro i j hi hj hij;have:=h i j (Nat.zero_le _) hij (by simp at hj;omega);rw[getElem!_pos d j (by simpa using hj),getElem!_pos d i (by simpa using hi)] at this
 simpa using this
def Tj{lt:α->α->Bool}{a:Nat}{d:Array α}:∀{i:Nat},(∀j,a<j->j<=i->lt d[j]! d[j-1]! =false)->insInner lt a i d=d
 |0,_=>rfl
 |i+1,h=>by
  unfold insInner
  by_cases hc:i+1>a
  ·have:=h (i+1) hc (Nat.le_refl _);rw[Nat.add_sub_cancel] at this;rw[this,Bool.and_false,if_neg (by decide)]
  ·rw[decide_eq_false hc,Bool.false_and,if_neg (by decide)]
def Hr{lt:α->α->Bool}{a b:Nat}{d:Array α}(h:∀j,a<j->j<b->lt d[j]! d[j-1]! =false):∀(n i:Nat),b-i=n->insOuter lt a b i d=d
 |0,i,hn=>by unfold insOuter;rw[if_neg (by omega)]
 |n+1,i,hn=>by
  unfold insOuter;rw[if_pos (by omega),Tj fun j h1 h2=>h j h1 (by omega)]
  exact Hr h n (i+1) (by omega)
def PW{lt:α->α->Bool}{l:List α}(h:l.Pairwise fun x y=>lt y x=false):Sort.insertionSort lt l.toArray 0 l.length=l.toArray:=by
 refine Hr (fun j h1 h2=>?_) _ _ rfl;rw[BU h2,BU (show j-1<l.length by omega)];exact List.pairwise_iff_getElem.1 h (j-1) j (by omega) h2 (by omega)
end
end Go.Via
namespace Go.Via
open Go
def qhC(a b:Bool):Int:=if a=b then 0 else if b=true then-1 else 1
def MF(a b:PU):Int:=if bW a.i.f b.i.f≠0 then bW a.i.f b.i.f else if qhC a.i.fo b.i.fo≠0 then qhC a.i.fo b.i.fo else bW a.i.t b.i.t
def qeQ{S:Rl->Prop}{ρ:Rl->Int}(T:gU S ρ){x y:PU}(hx:S x.i.f)(hy:S y.i.f)(h:aV ρ x.i.b<aV ρ y.i.b):¬MF y x<0:=by
 have h1:=T.lt hy hx;have h2:=T.gt hy hx;unfold aV Iv.b at h;dsimp only at h;unfold MF
 by_cases e:bW y.i.f x.i.f≠0
 ·rw[if_pos e];intro h3;have:=h1.1 h3
  revert h;split<;>split<;>omega
 ·rw[if_neg e];have e':ρ y.i.f=ρ x.i.f:=by
   have:¬ρ y.i.f<ρ x.i.f:=fun k=>e (by have:=h1.2 k;omega)
   have:¬ρ x.i.f<ρ y.i.f:=fun k=>e (by have:=h2.2 k;omega)
   omega
  rw[e'] at h;have hf:x.i.fo=false∧y.i.fo=true:=by
   cases hx':x.i.fo<;>cases hy':y.i.fo<;>rw[hx',hy'] at h<;>first|exact⟨rfl,rfl⟩|(exfalso;simp at h;done)|(exfalso;simp at h;omega)
  rw[hf.1,hf.2,if_pos (by decide)]
  decide
def Va{S:Rl->Prop}{ρ:Rl->Int}(T:gU S ρ){l:List PU}(hs:qG ρ l)(he:Ends S l):l.Pairwise fun x y=>decide (MF y x<0)=false:=by
 refine hs.1.imp_of_mem fun {x y} hx hy h=>?_
 have:=hs.2 x hx;exact decide_eq_false (qeQ T (he x hx).1 (he y hy).1 (by omega))
end Go.Via
namespace Go.Via
open Go
def aC:jh PU aQ 36:=⟨fun _=>rfl,fun x v hv=>List.all_eq_true.1 (show(aQ x).all (·.oneCell')=true from rfl) v hv⟩
def bI:jh Iv bP 20:=⟨fun _=>rfl,fun x v hv=>List.all_eq_true.1 (show(bP x).all (·.oneCell')=true from rfl) v hv⟩
def dK:jh Rl iD 9:=⟨fun _=>rfl,fun x v hv=>List.all_eq_true.1 (show(iD x).all (·.oneCell')=true from rfl) v hv⟩
def oH:jh (Iv×Qd) DN 32:=⟨fun _=>rfl,fun x v hv=>List.all_eq_true.1 (show(DN x).all (·.oneCell')=true from rfl) v hv⟩
def Gx:jh B3 PN 52:=⟨fun _=>rfl,fun x v hv=>List.all_eq_true.1 (show(PN x).all (·.oneCell')=true from rfl) v hv⟩
def bM:jh oZ bg 38:=⟨fun _=>rfl,fun x v hv=>List.all_eq_true.1 (show(bg x).all (·.oneCell')=true from rfl) v hv⟩
def vF:jh (Iv×Int) EU 21:=⟨fun _=>rfl,fun x v hv=>List.all_eq_true.1 (show(EU x).all (·.oneCell')=true from rfl) v hv⟩
def xE:jh ((Rl×Bool)×Int×Int) kG 12:=⟨fun _=>rfl,fun x v hv=>List.all_eq_true.1 (show(kG x).all (·.oneCell')=true from rfl) v hv⟩
end Go.Via
namespace Go.Via
open Go
structure RtG(n:Nat) where
 lo:Nat
 hi:Nat
 lx:SR (nb lo)
 hx:SR (nb hi)
 h1:lo*lo<=n
 h2:n<hi*hi
 h3:hi<=n+1
def qbq(n:Nat):n<(n+1)*(n+1):=Nat.lt_of_lt_of_le (Nat.lt_succ_self n) (Nat.le_mul_of_pos_right _ (by omega))
def qfV{n lo hi:Nat}(h1:lo*lo<=n)(h2:n<hi*hi):lo<hi:=UX (Nat.lt_of_le_of_lt h1 h2)
def qhD{n lo hi:Nat}(h1:lo*lo<=n)(h2:n<hi*hi)(h:¬lo+1<hi):cO n=lo:=by
 have h0:=qfV h1 h2;have:hi=lo+1:=(by omega);subst this;exact DI h1 h2
def qhE:D8 2=[2]:=zU (by omega) (by omega) (by omega)
def PX:nb 2=1:=by have h1:=nY (n:=2) (k:=1) (by omega);have h2:=Dw (u:=2) (by omega);omega
def qeR{a r:Rat}{u:Int}(h:dJ a=0):jR a u r=u*dJ r:=by unfold jR;rw[if_pos h]
def WQ{a r:Rat}{u:Int}(h:dJ a≠0)(h2:u*dJ r=0∨dJ a=u*dJ r):jR a u r=dJ a:=by unfold jR;rw[if_neg h,if_pos h2]
def qeS{a r:Rat}{u:Int}(h:dJ a≠0)(h2:u*dJ r≠0)(h3:dJ a≠u*dJ r):jR a u r=dJ a*oC (a*a) r:=by unfold jR;rw[if_neg h,if_neg (by rintro(e|e);exact h2 e;exact h3 e)]
def m3{a b:Int}(ha:a= -1∨a=0∨a=1)(hb:b= -1∨b=0∨b=1):a*b= -1∨a*b=0∨a*b=1:=by
 rcases ha with rfl|rfl|rfl<;>rcases hb with rfl|rfl|rfl<;>simp
def qbr(a r:Rat){u:Int}(hu:u= -1∨u=0∨u=1):jR a u r= -1∨jR a u r=0∨jR a u r=1:=by
 unfold jR
 split
 ·exact m3 hu (DV r)
 ·split
  ·exact DV a
  ·exact m3 (DV a) (qba _ _)
section
variable{a r s:Rat}{u v:Int}
def WR(h:jR a u r≠v*dJ s∨jR a u r=0)(h2:v*dJ s<jR a u r):MC a u r v s=1:=by unfold MC;rw[if_pos h,if_pos h2]
def WS(h:jR a u r≠v*dJ s∨jR a u r=0)(h2:¬v*dJ s<jR a u r):MC a u r v s=jR a u r-v*dJ s:=by unfold MC;rw[if_pos h,if_neg h2]
def qeT(h:¬jR a u r≠v*dJ s)(h2:¬jR a u r=0):MC a u r v s=jR a u r*jR (a*a+r-s) (u*dJ a) (4*(a*a*r)):=by
 unfold MC;rw[if_neg (by rintro(e|e);exact h e;exact h2 e)]
end
def qbs(x:Rl):nH x= -1∨nH x=0∨nH x=1:=by unfold nH;split<;>simp
def qbt:dw 4<=2:=nV (z:=4) (by omega) (by omega)
def qjp:Rat.divInt 2 1=2:=by decide+kernel
def qk7:Rat.divInt 4 1=4:=by decide+kernel
def qhF{f:Qd}{t:Rl}(h:dJ t.r=0):mg f t=⟨wL f t.p,0,0⟩:=by unfold mg;rw[if_pos h]
def qhG{f:Qd}{t:Rl}(h:dJ t.r≠0):mg f t=⟨f.c0+f.c2*(t.r-t.p*t.p),f.c1+2*(t.p*f.c2),0⟩:=by unfold mg;rw[if_neg h]
def qbu{f:Qd}{t:Rl}{m n:Nat}(hf:uB f<=m)(ht:gY t<=n):uB (mg f t)<=3*m+4*n+6:=by
 have e0:=Nat.le_trans (ql f) hf;have e1:=Nat.le_trans (qo f) hf;have e2:=Nat.le_trans (qL f) hf;have t1:=Nat.le_trans (sO t) ht;have t2:=Nat.le_trans (yj t) ht;have z0:=wP;unfold mg
 split
 ·have h1:=xB f t.p;refine Gw ?_ ?_ ?_<;>dsimp only<;>omega
 ·have l1:=aS t.p t.p;have l2:=bJ t.r (t.p*t.p);have l3:=aS f.c2 (t.r-t.p*t.p);have l4:=bT f.c0 (f.c2*(t.r-t.p*t.p));have l5:=aS t.p f.c2;have l6:=aS 2 (t.p*f.c2);have l7:=bT f.c1 (2*(t.p*f.c2));have l8:=Fa;refine Gw ?_ ?_ ?_<;>dsimp only<;>omega
def jo(f:Ln):Nat:=max (max (dw f.x0) (dw f.x1)) (max (dw f.y0) (dw f.y1))
def rQ(f:Ln):dw f.x0<=jo f:=by unfold jo;omega
def rU(f:Ln):dw f.x1<=jo f:=by unfold jo;omega
def rV(f:Ln):dw f.y0<=jo f:=by unfold jo;omega
def rW(f:Ln):dw f.y1<=jo f:=by unfold jo;omega
def qbv{f g:Ln}{n:Nat}(hf:jo f<=n)(hg:jo g<=n):uB (d2 f g)<=8*n+20:=by
 have a0:=Nat.le_trans (rQ f) hf;have a1:=Nat.le_trans (rU f) hf;have a2:=Nat.le_trans (rV f) hf;have a3:=Nat.le_trans (rW f) hf;have b0:=Nat.le_trans (rQ g) hg;have b1:=Nat.le_trans (rU g) hg;have b2:=Nat.le_trans (rV g) hg;have b3:=Nat.le_trans (rW g) hg;have s0:=bJ f.x0 g.x0;have s1:=bJ f.x1 g.x1;have s2:=bJ f.y0 g.y0;have s3:=bJ f.y1 g.y1;have z:=Fa;unfold d2;refine Gw ?_ ?_ ?_<;>dsimp only
 ·have:=bT ((f.x0-g.x0)*(f.x0-g.x0)) ((f.y0-g.y0)*(f.y0-g.y0));have:=aS (f.x0-g.x0) (f.x0-g.x0);have:=aS (f.y0-g.y0) (f.y0-g.y0);omega
 ·have:=aS 2 ((f.x0-g.x0)*(f.x1-g.x1)+(f.y0-g.y0)*(f.y1-g.y1));have:=bT ((f.x0-g.x0)*(f.x1-g.x1)) ((f.y0-g.y0)*(f.y1-g.y1));have:=aS (f.x0-g.x0) (f.x1-g.x1);have:=aS (f.y0-g.y0) (f.y1-g.y1);omega
 ·have:=bT ((f.x1-g.x1)*(f.x1-g.x1)) ((f.y1-g.y1)*(f.y1-g.y1));have:=aS (f.x1-g.x1) (f.x1-g.x1);have:=aS (f.y1-g.y1) (f.y1-g.y1);omega
def Tn{m n:Nat}(h:(ng m n !=0)=true):m≠n:=fun e=>by subst e;unfold ng at h;simp at h
def Tq{m n:Nat}(h:(ng m n !=0)=false):m=n:=by
 unfold ng at h
 by_cases h1:m<n
 ·simp[h1] at h
 ·by_cases h2:n<m
  ·simp[h1,h2] at h
  ·omega
def qjq{q:Rat}(h:decide (q.num<0)=true):BM q=false:=by
 have:=of_decide_eq_true h;unfold BM;rw[decide_eq_false (by omega)];rfl
def qjr{q:Rat}(h:cO q.num.natAbs*cO q.num.natAbs≠q.num.natAbs):BM q=false:=by
 unfold BM;rw[beq_eq_false_iff_ne.2 h];simp
def qjs{q:Rat}(h:cO q.den*cO q.den≠q.den):BM q=false:=by
 unfold BM;rw[beq_eq_false_iff_ne.2 h];simp
def qjt{q:Rat}(h:decide (q.num<0)=false)(h1:cO q.num.natAbs*cO q.num.natAbs=q.num.natAbs)(h2:cO q.den*cO q.den=q.den):BM q=true:=by
 have:=of_decide_eq_false h;unfold BM;rw[h1,h2,decide_eq_true (by omega)];simp
def YI(q:Rat)(h:cO q.den*cO q.den=q.den):0<cO q.den:=by
 have:=q.den_nz;exact Nat.pos_of_ne_zero fun e=>by rw[e] at h;omega
end Go.Via
namespace Go.Proofs.YtaffcpfhedadhaaGreatDoor
open Go Go.Via
end Go.Proofs.YtaffcpfhedadhaaGreatDoor
namespace Go.Via
open Go
def Ol(out:List Iv)(t:Rl)(tp:Bool):List Iv:=match out.getLast? with
 |some i=>out.dropLast++[⟨i.f,t,i.fo,tp⟩]
 |none=>out
def kM(out:List Iv)(op h:Bool)(t:Rl):List Iv:=if op=true then Ol out t (!h) else if h=true then out++[⟨t,t,false,false⟩] else out
def qH(here:Rl->Bool)(btw:Rl->Rl->Bool):List Rl->List Iv->Bool->List Iv
 |[],out,_=>out
 |[t],out,op=>kM out op (here t) t
 |t::u::ts,out,op=>qH here btw (u::ts) (if btw t u=true∧here t=false then kM out op (here t) t++[⟨t,u,true,true⟩] else kM out op (here t) t) (btw t u)
def vG(out:List Iv)(i:Iv)(t:Rl)(tp:Bool):Ol (out++[i]) t tp=out++[⟨i.f,t,i.fo,tp⟩]:=by
 unfold Ol;rw[List.getLast?_append];simp
def uj{here:Rl->Bool}{btw:Rl->Rl->Bool}:∀{ts:List Rl} {out:List Iv},(qH here btw ts out false=out++(NT here btw none ts).map fun p=>Ia p.1 p.2)∧∀i:Iv,ts≠[]->qH here btw ts (out++[i]) true=out++(NT here btw (some i.b) ts).map fun p=>Ia p.1 p.2
 |[],out=>by
  refine⟨by simp[qH,NT],fun i h=>absurd rfl h⟩
 |[t],out=>by
  refine⟨?_,fun i _=>?_⟩
  ·unfold qH NT kM;cases here t<;>simp[Ia]
  ·unfold qH NT kM;rw[if_pos rfl,vG];simp[Ia,Iv.b]
 |t::u::ts,out=>by
  refine⟨?_,fun i _=>?_⟩
  ·unfold qH NT kM;cases hh:here t<;>cases hb:btw t u<;>simp only[Bool.false_eq_true,if_false,if_true,and_true,and_false,true_and,false_and,reduceIte]
   ·exact(uj (ts:=u::ts) (out:=out)).1
   ·exact(uj (ts:=u::ts) (out:=out)).2 ⟨t,u,true,true⟩ (by simp)
   ·rw[(uj (ts:=u::ts) (out:=out++[_])).1];simp[Ia]
   ·exact(uj (ts:=u::ts) (out:=out)).2 ⟨t,t,false,false⟩ (by simp)
  ·unfold qH NT kM;rw[if_pos rfl,vG];cases hh:here t<;>cases hb:btw t u<;>simp only[Bool.false_eq_true,if_false,if_true,and_true,and_false,true_and,false_and,reduceIte]
   ·rw[(uj (ts:=u::ts) (out:=out++[_])).1];simp[Ia,Iv.b]
   ·rw[(uj (ts:=u::ts) (out:=out++[_])).2 ⟨t,u,true,true⟩ (by simp)];simp[Ia,Iv.b]
   ·rw[(uj (ts:=u::ts) (out:=out++[_])).1];simp[Ia,Iv.b]
   ·exact(uj (ts:=u::ts) (out:=out)).2 ⟨i.f,t,i.fo,false⟩ (by simp)
def jh.setf{α:Type}{c:α->List Value}{k:Nat}(h:jh α c k){l:List α}{i:Nat}{x y:α}{v:List Value}{o n:Nat}(hx:l[i]? =some x)(hy:(c x).take o++v++(c x).drop (o+n)=c y)(hn:o+n<=k):
 (ah c l).take (i*k+o)++v++(ah c l).drop (i*k+o+n)=ah c (l.set i y):=by
 have hi:i<l.length:=(List.getElem?_eq_some_iff.1 hx).1;have e1:(ah c l).take (i*k+o)=(ah c l).take (i*k)++(c x).take o:=by
  rw[List.take_add,<-h.get hx,List.take_take,Nat.min_eq_left (by omega)]
 have e2:(ah c l).drop (i*k+o+n)=(c x).drop (o+n)++(ah c l).drop (i*k+k):=by
  have e3:(ah c l).drop (i*k)=c x++(ah c l).drop (i*k+k):=by
   rw[<-h.get hx,<-List.drop_drop];exact(List.take_append_drop k _).symm
  rw[Nat.add_assoc,<-List.drop_drop,e3,List.drop_append_of_le_length (by rw[h.len];exact hn)]
 rw[e1,e2,<-h.set y hi,<-hy];simp
def Om{out:List Iv}{i:Iv}(h:out[out.length-1]? =some i)(t:Rl)(tp:Bool):Ol out t tp=out.set (out.length-1) ⟨i.f,t,i.fo,tp⟩:=by
 have hne:out≠[]:=fun e=>by subst e;simp at h
 obtain⟨l,j,rfl⟩:∃l j,out=l++[j]:=⟨out.dropLast,out.getLast hne,(List.dropLast_concat_getLast hne).symm⟩;simp at h;subst h;rw[vG];simp
def vH(op:Int)(a b:Bool):Bool:=if op=1 then a||b else if op=2 then a&&b else a&& !b
end Go.Via
namespace Go.Via
def nM{α:Type}{l:List α}{i:Nat}{x:α}{p:α->Bool}(hx:l[i]? =some x):(l.drop i).any p=(p x||(l.drop (i+1)).any p):=by
 have:l.drop i=x::l.drop (i+1):=by
  obtain⟨hlt,e⟩:=List.getElem?_eq_some_iff.1 hx;rw[List.drop_eq_getElem_cons hlt,e]
 rw[this,List.any_cons]
end Go.Via
namespace Go.Via
def PY{x:Rl}:∀{l:List Rl} {k:Nat},k<=l.length->(∀j y,j<k->l[j]? =some y->bW y x<0)->(∀y,l[k]? =some y->¬bW y x<0∧bW y x≠0)->sJ x l=l.take k++x::l.drop k
 |[],k,hk,_,_=>by simp at hk;subst hk;rfl
 |y::l,0,_,_,h=>by
  have:=h y rfl;unfold sJ;rw[if_neg this.1,if_neg this.2];rfl
 |y::l,k+1,hk,hall,h=>by
  have h0:=hall 0 y (by omega) rfl;unfold sJ;rw[if_pos h0,PY (by simpa using hk) (fun j z hj hz=>hall (j+1) z (by omega) (by simpa using hz)) (fun z hz=>h z (by simpa using hz))]
  rfl
def WT{x:Rl}:∀{l:List Rl} {k:Nat} {y:Rl},l[k]? =some y->(∀j y,j<k->l[j]? =some y->bW y x<0)->¬bW y x<0->bW y x=0->sJ x l=l
 |[],k,y,hy,_,_,_=>by simp at hy
 |z::l,0,y,hy,_,h1,h2=>by
  simp at hy;subst hy;unfold sJ;rw[if_neg h1,if_pos h2]
 |z::l,k+1,y,hy,hall,h1,h2=>by
  unfold sJ;rw[if_pos (hall 0 z (by omega) rfl),WT (l:=l) (k:=k) (by simpa using hy) (fun j w hj hw=>hall (j+1) w (by omega) (by simpa using hw)) h1 h2]
def KI{l:List Rl}{i:Nat}{x:Rl}(hx:l[i]? =some x):fG (l.take (i+1))=sJ x (fG (l.take i)):=by
 rw[<-dD hx];unfold fG;rw[List.foldl_append];rfl
def Tt(x:Rl):∀l:List Rl,(sJ x l).length<=l.length+1
 |[]=>by simp[sJ]
 |y::l=>by
  have:=Tt x l;unfold sJ;split
  ·simp;omega
  ·split<;>simp
def PZ(l:List Rl):(fG l).length<=l.length:=by
 have:∀(l o:List Rl),(l.foldl (fun o x=>sJ x o) o).length<=o.length+l.length:=by
  intro l
  induction l with
  |nil=>intro o;simp
  |cons x l ih=>intro o;rw[List.foldl_cons];have:=ih (sJ x o);have:=Tt x o;simp;omega
 have:=this l [];unfold fG;simpa using this
def Tu{p:Rl->Prop}{x:Rl}(hx:p x):∀{l:List Rl},(∀y∈l,p y)->∀y∈sJ x l,p y
 |[],_,y,hy=>by simp[sJ] at hy;rw[hy];exact hx
 |z::l,h,y,hy=>by
  unfold sJ at hy
  split at hy
  ·rcases List.mem_cons.1 hy with e|e
   ·rw[e];exact h z (List.mem_cons_self ..)
   ·exact Tu hx (fun w hw=>h w (List.mem_cons_of_mem _ hw)) y e
  ·split at hy
   ·exact h y hy
   ·rcases List.mem_cons.1 hy with e|e
    ·rw[e];exact hx
    ·exact h y e
def WU{p:Rl->Prop}{l:List Rl}(h:∀y∈l,p y):∀y∈fG l,p y:=by
 have:∀(l o:List Rl),(∀y∈l,p y)->(∀y∈o,p y)->∀y∈l.foldl (fun o x=>sJ x o) o,p y:=by
  intro l
  induction l with
  |nil=>intro o _ ho;exact ho
  |cons x l ih=>intro o hl ho;rw[List.foldl_cons];exact ih _ (fun y hy=>hl y (List.mem_cons_of_mem _ hy)) (Tu (hl x (List.mem_cons_self ..)) ho)
 exact this l [] h (by simp)
section
variable{α:Type}{c:α->List Value}{k:Nat}
def jh.takeR(h:jh α c k):∀(l:List α) (n:Nat),(ah c l).take (n*k)=ah c (l.take n)
 |[],n=>by simp[ah]
 |x::l,0=>by simp[ah]
 |x::l,n+1=>by
  have e:(n+1)*k=(c x).length+n*k:=(by rw[h.len,Nat.succ_mul,Nat.add_comm]);rw[ig,e,List.take_length_add_append,List.take_succ_cons,ig,jh.takeR h l n]
def jh.dropR(h:jh α c k):∀(l:List α) (n:Nat),(ah c l).drop (n*k)=ah c (l.drop n)
 |[],n=>by simp[ah]
 |x::l,0=>by simp
 |x::l,n+1=>by
  have e:(n+1)*k=(c x).length+n*k:=(by rw[h.len,Nat.succ_mul,Nat.add_comm]);rw[ig,e,List.drop_length_add_append,List.drop_succ_cons,jh.dropR h l n]
def jh.lenTake(h:jh α c k){l:List α}{n:Nat}(hn:n<=l.length):(ah c (l.take n)).length=n*k:=by rw[h.length,List.length_take,Nat.min_eq_left hn]
def jh.lenDrop(h:jh α c k)(l:List α)(n:Nat):(ah c (l.drop n)).length=(l.length-n)*k:=by rw[h.length,List.length_drop]
def jh.dropT(h:jh α c k){l:List α}{n cap:Nat}(hc:l.length<=cap)(hn:n<=l.length):((ah c l).drop (if cap=n then 0 else n*k)).take ((l.length-n)*k)=ah c (l.drop n):=by
 by_cases e:cap=n
 ·have:l.length-n=0:=by omega
  rw[if_pos e,this,Nat.zero_mul,List.take_zero,List.drop_of_length_le (by omega)];rfl
 ·rw[if_neg e,h.dropR,List.take_of_length_le];rw[h.lenDrop];exact Nat.le_refl _
end
end Go.Via
namespace Go.Via
def vI:∀l:List Iv,(bV l).length=2*l.length
 |[]=>rfl
 |i::l=>by show(i.f::i.t::bV l).length=_;rw[List.length_cons,List.length_cons,vI l,List.length_cons];omega
def WV{l:List Iv}{n:Nat}(h:∀x∈l,jV x<=n):∀y∈bV l,gY y<=n:=fun y hy=>by
 obtain⟨i,hi,he⟩:=List.mem_flatMap.1 hy;have:=h i hi;simp at he;rcases he with rfl|rfl
 ·exact Nat.le_trans (kw i) this
 ·exact Nat.le_trans (kz i) this
def sS{α:Type}{c:α->List Value}{k:Nat}(h:jh α c k)(hk:0<k){l:List α}{b:Option Nat}(hb:b=none->ah c l=[]):l.length=0∨∃g,b=some g:=by
 by_cases e:l.length=0
 ·exact .inl e
 ·right
  cases b with
  |some g=>exact⟨g,rfl⟩
  |none=>exact absurd (hb rfl) (h.ne hk (by omega))
end Go.Via
namespace Go.Via
open Go
def yX{α:Type}{l:List α}{i:Nat}{x:α}(hx:l[i]? =some x):l.drop i=x::l.drop (i+1):=by
 obtain⟨hlt,e⟩:=List.getElem?_eq_some_iff.1 hx;rw[List.drop_eq_getElem_cons hlt,e]
def P5(op:Bool->Bool->Bool)(a b:List Iv):kY op a b=qH (fun t=>op (oh a t) (oh b t)) (fun t u=>op (oq a t u) (oq b t u)) (fG (bV (a++b))) [] false:=by
 rw[uj.1];rfl
section
variable{here:Rl->Bool}{btw:Rl->Rl->Bool}{E:List Rl}{i:Nat}{t u:Rl}{out o1:List Iv}{og h w:Bool}
def YJ(ht:E[i]? =some t)(he:i+1=E.length)(hh:here t=h):kM out og h t=qH here btw (E.drop i) out og:=by
 rw[yX ht,List.drop_of_length_le (by omega)];unfold qH;rw[hh]
def Gy(ht:E[i]? =some t)(hu:E[i+1]? =some u)(hh:here t=h)(hw:btw t u=w):
 qH here btw (E.drop i) out og=qH here btw (E.drop (i+1)) (if w=true∧h=false then kM out og h t++[⟨t,u,true,true⟩] else kM out og h t) w:=by
 rw[yX ht,yX hu];rw[qH,hh,hw]
def qbw(ht:E[i]? =some t)(hu:E[i+1]? =some u)(hh:here t=h)(hw:btw t u=w)(h1:w=true)(h2:h=false)(ho:o1=kM out og h t):
 qH here btw (E.drop i) out og=qH here btw (E.drop (i+1)) (o1++[⟨t,u,true,true⟩]) true:=by
 rw[Gy ht hu hh hw,if_pos ⟨h1,h2⟩,ho,h1]
def qeU(ht:E[i]? =some t)(hu:E[i+1]? =some u)(hh:here t=h)(hw:btw t u=w)(h1:w=true)(h2:h=true)(ho:o1=kM out og h t):
 qH here btw (E.drop i) out og=qH here btw (E.drop (i+1)) o1 true:=by
 rw[Gy ht hu hh hw,if_neg (by rw[h2];simp),ho,h1]
def qeV(ht:E[i]? =some t)(hu:E[i+1]? =some u)(hh:here t=h)(hw:btw t u=w)(h1:w=false)(ho:o1=kM out og h t):
 qH here btw (E.drop i) out og=qH here btw (E.drop (i+1)) o1 false:=by
 rw[Gy ht hu hh hw,if_neg (by rw[h1];simp),ho,h1]
end
def qeW{out:List Iv}{og h:Bool}{t:Rl}{j:Iv}(h0:og=true)(h1:h=true)(hj:out[out.length-1]? =some j):kM out og h t=out.set (out.length-1) ⟨j.f,t,j.fo,false⟩:=by
 subst h0;subst h1;unfold kM;rw[if_pos rfl,Om hj];rfl
def qeX{out:List Iv}{og h:Bool}{t:Rl}{j:Iv}(h0:og=true)(h1:h=false)(hj:out[out.length-1]? =some j):kM out og h t=out.set (out.length-1) ⟨j.f,t,j.fo,true⟩:=by
 subst h0;subst h1;unfold kM;rw[if_pos rfl,Om hj];rfl
def qeY{out:List Iv}{og h:Bool}{t:Rl}(h0:og=false)(h1:h=true):kM out og h t=out++[⟨t,t,false,false⟩]:=by subst h0;subst h1;rfl
def qeZ{out:List Iv}{og h:Bool}{t:Rl}(h0:og=false)(h1:h=false):kM out og h t=out:=by subst h0;subst h1;rfl
def qbx(out:List Iv)(og:Bool)(t:Rl):og=true∧out=[]∨0<(kM out og true t).length:=by
 cases og
 ·right;simp[kM]
 ·by_cases h:out=[]
  ·exact .inl ⟨rfl,h⟩
  ·right
   obtain⟨l,j,rfl⟩:∃l j,out=l++[j]:=⟨out.dropLast,out.getLast h,(List.dropLast_concat_getLast h).symm⟩;unfold kM;rw[if_pos rfl,vG];simp
end Go.Via
namespace Go.Proofs.YtaffcpfhedadhaaGreatDoor
open Go Go.RowKit Go.Via
def Fe(n:Nat)(hn:nb n<=100000000)(x:SR (nb n)):dh Tryz.prog 162 [⟨x.b,3,NV .i64 (D8 (n)),x.n,false⟩] [x.v] (SR (nb (cO n))) SR.v (fun z=>[⟨z.b,3,NV .i64 (D8 (cO n)),z.n,true⟩]):=by
 refine Md 34 Tryz.func162 fun w hL0=>?_;refine A7 ?_;refine(Bl 0 []) (qdv) (fun g0=>?_);refine A1 ?_;refine(Bl 1 [(0,_)]) (gW) (fun g1=>?_);refine iM [_,SR.v (len:=nb 1) ⟨some g1,1,1,by rw[qf];exact Nat.le_refl _⟩] [0,2] rfl rfl (by show _=[some _,some (az (some g1) 0 (nb 1) 1)];rw[qf];rfl) (jZ n 1 (by omega) (by rw[qf];omega) x ⟨some g1,1,1,by rw[qf];exact Nat.le_refl _⟩) ⟨pS,⟨_,rfl,by rw[UU];exact mX⟩,trivial⟩ rfl (.inr fun x b hb=>by rw[List.mem_singleton.1 hb]) (fun zp=>?_);refine A6 ?_;refine El (ι:=RtG n) (fun⟨lo,hi,lx,hx,h1,h2,h3⟩=>([(0,x.v),(3,lx.v),(4,hx.v)],[⟨x.b,3,NV .i64 (D8 (n)),x.n,false⟩,⟨lx.b,3,NV .i64 (D8 (lo)),lx.n,true⟩,⟨hx.b,3,NV .i64 (D8 (hi)),hx.n,true⟩],hi-lo)) ⟨0,n+1,⟨some g0,0,0,by rw[kS];exact Nat.le_refl _⟩,zp,Nat.zero_le _,qbq n,Nat.le_refl _⟩ ?_ (ht:=⟨rfl,(aB rfl (by show az (some g0) 0 0 0=az (some g0) 0 (nb 0) 0;rw[kS])),rfl,trivial⟩) (hL:=(au [some 0,some 1,some 3] ⟨pR,⟨_,rfl,by rw[PG];exact aG.le_refl _⟩,pR,trivial⟩ rfl rfl));rintro⟨lo,hi,lx,hx,h1,h2,h3⟩;(try dsimp only);have hlo:=qfV h1 h2;have b1:nb lo<=nb n+1:=Nat.le_trans (ik (show lo<=n by omega)) (by omega);have b2:nb hi<=nb n+2:=Nat.le_trans (ik h3) (by have:=zV n 1;rw[qf] at this;omega);have b3:=zV lo hi;have b4:=zV lo 1;have b5:=qf;have b6:=wW (lo+hi) 2;have b7:=oQ ((lo+hi)/2) ((lo+hi)/2);refine A4 ?_;refine(Bl 1 [(0,_)]) (gW) (fun g2=>?_);refine iM [_,SR.v (len:=nb 1) ⟨some g2,1,1,by rw[qf];exact Nat.le_refl _⟩] [1,3] rfl rfl (by show _=[some _,some (az (some g2) 0 (nb 1) 1)];rw[qf];rfl) (jZ lo 1 (by omega) (by rw[qf];omega) lx ⟨some g2,1,1,by rw[qf];exact Nat.le_refl _⟩) ⟨pS,⟨_,rfl,by rw[UU];exact mX⟩,trivial⟩ rfl (.inr fun x b hb=>by rw[List.mem_singleton.1 hb]) (fun z1=>?_);refine A1 ?_;refine(Sd [4,2]) (fU (lo+1) hi (by omega) z1 hx) ?_;refine A3 ?_;refine Cd ?_ ?_<;>intro hb1
 ·have hlt:lo+1<hi:=NJ hb1;refine A7 ?_;refine(Sc [1,2]) (jZ lo hi (by omega) (by omega) lx hx) (fun zs=>?_);refine(Bl 1 [(0,_)]) (gW) (fun g3=>?_);refine iM [_,SR.v (len:=nb 2) ⟨some g3,1,1,by rw[PX];exact Nat.le_refl _⟩] [5,6] rfl rfl (by show _=[some _,some (az (some g3) 0 (nb 2) 1)];rw[PX];rfl) (qj (lo+hi) 2 (by omega) (by omega) (by rw[PX];omega) zs ⟨some g3,1,1,by rw[PX];exact Nat.le_refl _⟩) ⟨pS,⟨_,rfl,by rw[qhE];exact mX⟩,trivial⟩ rfl (.inr J8) (fun zd0=>?_);obtain⟨zd,rfl⟩:∃z,zd0=Sum.inl z:=by cases zd0 with|inl z=>exact⟨z,rfl⟩|inr h=>exact absurd h.down (by omega)
  refine oO ?_;refine(Sc [7,7]) (jy ((lo+hi)/2) ((lo+hi)/2) (by omega) (by omega) zd.1 zd.1) (fun zt=>?_);refine A1 ?_;refine(Sd [9,0]) (fU ((lo+hi)/2*((lo+hi)/2)) n (by omega) zt x) ?_;refine A3 ?_;refine Cd ?_ ?_<;>intro hb2
  ·have hc:(lo+hi)/2*((lo+hi)/2)<=n:=wJ.1 (of_decide_eq_true hb2);refine A6 ?_;exact Nl ⟨(lo+hi)/2,hi,zd.1,hx,hc,h2,h3⟩ (hμ:=(by show hi-(lo+hi)/2<hi-lo;omega)) (hL:=(rD [some 0,some 7,some 2]))
  ·have hc:n<(lo+hi)/2*((lo+hi)/2):=Nat.lt_of_not_le fun e=>of_decide_eq_false hb2 (wJ.2 e)
   refine A6 ?_;exact Nl ⟨lo,(lo+hi)/2,lx,zd.1,h1,hc,by omega⟩ (hμ:=(by show(lo+hi)/2-lo<hi-lo;omega)) (hL:=(rD [some 0,some 1,some 7]))
 ·have hge:¬lo+1<hi:=Nat.not_lt.2 (JZ hb1);have he:=qhD h1 h2 hge;obtain rfl:=he;refine lX ?_;refine aH rfl (aj rfl) (fun w hL=>⟨lx,?_,hL.pk [some 1]⟩);exact rfl
def P6(q:Rat)(hq:dw q<=4194303:=by omega):aP Tryz.prog 112 #[Q q] (.tuple #[Q (if BM q=true then nD q else 0),.bool (BM q)]):=by
 have e1:=Jz hq;have e2:=JA hq;have r1:=oM q.num.natAbs;have r2:=oM q.den;have m1:=oQ (cO q.num.natAbs) (cO q.num.natAbs);have m2:=oQ (cO q.den) (cO q.den);refine xJ 40 Tryz.func112 fun w=>?_;refine A2 ?_;refine Bp 4 (fun g0=>?_);refine Al 4 qU (fun g1=>?_);refine A5 ?_;refine L4 0 0 ?_;refine iM [_] [] rfl rfl rfl (ve q (Nat.le_trans hq (Nat.le_of_ble_eq_true rfl))) trivial rfl (.inr qaX) (fun y=>?_);refine Al 3 XW (fun g2=>?_);refine Ss 4 ?_;refine A3 ?_;refine Dp [] [0,1,3,4,2,5,6,7] ?_;refine A4 ?_;refine(Sc [2]) (Fe (q.num.natAbs) (by omega) y.1) (fun zn=>?_);refine(Sc [3]) (Fe (q.den) (by omega) y.2) (fun zd=>?_);refine A6 ?_;refine Dp [] [0,1,2,3,4,6,7,5,8,9,10,11,12,13,15,16,14,17,18,19] ?_ (hc:=(oz [0,1,3,7,7,31,7,71,255,511,1023,2047,4095,4095,16383,4095,36863,131071,262143,524287] (by kernel_rfl)));refine A3 ?_;refine Rs 17 ?_ ?_<;>intro hb0
 ·have hs17:decide (q.num<0)=true:=hb0;refine A22 ?_;refine(Bu []) (yL) ?_;refine aT 35 (Q 0) rfl yI.symm ?_;refine Ss 1 ?_;refine A5 ?_;refine bF rfl (bu 1 rfl rfl BZ (vs:=[_,_,_,_]) rfl rfl (Nat.le_of_ble_eq_true rfl) rfl) (aj rfl) (fun w hL=>⟨?_,hL.below⟩);rw[qjq hs17,if_neg (by decide)];rfl
 ·have hs17:decide (q.num<0)=false:=hb0;refine A4 ?_;refine(Sc [5,5]) (jy (cO q.num.natAbs) (cO q.num.natAbs) (by omega) (by omega) zn zn) (fun tn=>?_);refine(Sd [7,2]) (fU (cO q.num.natAbs*cO q.num.natAbs) q.num.natAbs (by omega) tn y.1) ?_;refine A3 ?_;refine Rs 26 ?_ ?_<;>intro hb1
  ·have hs24:cO q.num.natAbs*cO q.num.natAbs≠q.num.natAbs:=Tn hb1;refine CB ?_;refine(Bu []) (yL) ?_;refine aT 35 (Q 0) rfl yI.symm ?_;refine Ss 1 ?_;refine A5 ?_;refine bF rfl (bu 1 rfl rfl BZ (vs:=[_,_,_,_]) rfl rfl (Nat.le_of_ble_eq_true rfl) rfl) (aj rfl) (fun w hL=>⟨?_,hL.below⟩);rw[qjr hs24,if_neg (by decide)];rfl
  ·have hs24:cO q.num.natAbs*cO q.num.natAbs=q.num.natAbs:=Tq hb1;refine A4 ?_;refine(Sc [6,6]) (jy (cO q.den) (cO q.den) (by omega) (by omega) zd zd) (fun td=>?_);refine(Sd [8,3]) (fU (cO q.den*cO q.den) q.den (by omega) td y.2) ?_;refine A4 ?_;refine Cd ?_ ?_<;>intro hb2
   ·have hs33:cO q.den*cO q.den≠q.den:=Tn hb2;refine A2 ?_;refine(Bu []) (yL) ?_;refine aT 35 (Q 0) rfl yI.symm ?_;refine Ss 1 ?_;refine A5 ?_;refine bF rfl (bu 1 rfl rfl BZ (vs:=[_,_,_,_]) rfl rfl (Nat.le_of_ble_eq_true rfl) rfl) (aj rfl) (fun w hL=>⟨?_,hL.below⟩);rw[qjs hs33,if_neg (by decide)];rfl
   ·have hs33:cO q.den*cO q.den=q.den:=Tq hb2;refine A6 ?_;refine(Bu [(0,_),(1,_),(2,_)]) (wC) ?_;refine(Sd [5,6]) (iW (cO q.num.natAbs) (cO q.den) false (YI q hs33) (by omega) (by omega) zn zd) ?_;refine Ss 1 ?_;refine A4 ?_;refine bF rfl (bu 1 rfl rfl BZ (vs:=[_,_,_,_]) rfl rfl (Nat.le_of_ble_eq_true rfl) rfl) (aj rfl) (fun w hL=>⟨?_,hL.below⟩);rw[qjt hs17 hs24 hs33,if_pos rfl];rfl
def P7(f:Qd)(t:Rat)(hf:uB f<=500000:=by omega)(ht:dw t<=500000:=by omega):aP Tryz.prog 80 #[rM f,Q t] (Q (wL f t)):=by
 have f0:=Nat.le_trans (ql f) hf;have f1:=Nat.le_trans (qo f) hf;have f2:=Nat.le_trans (qL f) hf;have l1:=aS t f.c2;have l2:=bT f.c1 (t*f.c2);have l3:=aS t (f.c1+t*f.c2);refine oG 17 Tryz.func80 fun w=>?_;refine A2 ?_;refine Bp 12 (fun g0=>?_);refine Bp 4 (fun g1=>?_);refine Al 4 qU (fun g2=>?_);refine A3 ?_;refine Di [] ?_;refine A1 ?_;refine L4 0 0 ?_;refine L4 1 0 ?_;refine A1 ?_;refine L4 0 4 ?_;refine L4 1 0 ?_;refine A1 ?_;refine L4 0 8 ?_;refine Pc (dQ t f.c2) ?_;refine Pc (iG f.c1 (t*f.c2)) ?_;refine Pc (dQ t (f.c1+t*f.c2)) ?_;refine Pc (iG f.c0 (t*(f.c1+t*f.c2))) ?_;refine Ss 2 ?_;refine A3 ?_;refine G6 2 ?_;exact rfl
def KJ(f:Qd)(t:Rl)(hf:uB f<=100000:=by omega)(ht:gY t<=100000:=by omega):aP Tryz.prog 99 #[rM f,RV t] (rM (mg f t)):=by
 have f0:=Nat.le_trans (ql f) hf;have f1:=Nat.le_trans (qo f) hf;have f2:=Nat.le_trans (qL f) hf;have t1:=Nat.le_trans (sO t) ht;have t2:=Nat.le_trans (yj t) ht;have l1:=aS t.p t.p;have l2:=bJ t.r (t.p*t.p);have l3:=aS f.c2 (t.r-t.p*t.p);have l4:=aS t.p f.c2;have l5:=aS 2 (t.p*f.c2);have l6:=Fa;refine oG 41 Tryz.func99 fun w=>?_;refine A2 ?_;refine Bp 12 (fun g0=>?_);refine Bp 9 (fun g1=>?_);refine Al 12 G5 (fun g2=>?_);refine A6 ?_;refine L4 1 4 ?_;refine Pc (lK t.r) ?_;refine A3 ?_;refine Cd ?_ ?_<;>intro hb0
 ·have hs9:=eq_of_beq hb0;refine A2 ?_;refine ut 0 0 ?_;refine A1 ?_;refine L4 1 0 ?_;refine Pc (P7 f t.p) ?_;refine(Bu [(0,_)]) (ZY) ?_;refine Ss 2 ?_;refine A4 ?_;refine JQ 2 ?_;rw[qhF hs9,Oc]
 ·have hs9:=ne_of_beq_false hb0;refine A4 ?_;refine Pc (jd 2 1) ?_;refine aT 15 (Q 2) rfl (congrArg Q qjp) ?_;refine Al 4 qU (fun g3=>?_);refine Ss 3 ?_;refine A3 ?_;refine Dp [] [0,1,2,3,4,5,6,7,8,9,14,15,16,17,18,19,20,10,11,12,13,21,22,23,24,25] ?_ (hc:=(oz [0,1,0,4,0,16,0,64,0,256,960,2032,4092,8191,0,16384,0,0,131072,0,524288,1982463,4145151,8388607,16777215,33554431] (by kernel_rfl)));refine A1 ?_;refine L4 0 0 ?_;refine A1 ?_;refine L4 0 8 ?_;refine A1 ?_;refine L4 1 4 ?_;refine A1 ?_;refine L4 1 0 ?_;refine A1 ?_;refine L4 1 0 ?_;refine A1 ?_;refine L4 0 4 ?_;refine L4 3 0 ?_;refine A1 ?_;refine L4 1 0 ?_;refine A1 ?_;refine L4 0 8 ?_;refine Pc (dQ t.p t.p) ?_;refine Pc (lC t.r (t.p*t.p)) ?_;refine Pc (dQ f.c2 (t.r-t.p*t.p)) ?_;refine Pc (iG f.c0 (f.c2*(t.r-t.p*t.p))) ?_;refine Pc (dQ t.p f.c2) ?_;refine Pc (dQ 2 (t.p*f.c2)) ?_;refine Pc (iG f.c1 (2*(t.p*f.c2))) ?_;refine(Bu [(0,_),(1,_)]) (ZZ) ?_;refine Ss 2 ?_;refine A3 ?_;refine JQ 2 ?_;rw[qhG hs9,WJ]
def CV(a:Rat)(u:Int)(r:Rat)(hu:u= -1∨u=0∨u=1)(ha:dw a<=1000000:=by omega)(hr:dw r<=1000000:=by omega):aP Tryz.prog 109 #[Q a,.int .i64 u,Q r] (.int .i64 (jR a u r)):=by
 have l1:=aS a a;refine pB3 35 Tryz.func109 fun w=>?_;refine A2 ?_;refine Bp 4 (fun g0=>?_);refine Bp 4 (fun g1=>?_);refine A4 ?_;refine Dp [2000000] [0,2,3,1,4,5,6,7] ?_;refine L4 0 0 ?_;refine A1 ?_;refine L4 1 0 ?_;refine Pc (lK a) ?_;refine Pc (lK r) ?_;refine(Aq (u*dJ r)) (congrArg some (w3 hu (DV r))) ?_;refine CB ?_;refine Cd ?_ ?_<;>intro hb0
 ·have hs15:=eq_of_beq hb0;refine A9 ?_;refine E0 ?_;rw[qeR hs15]
 ·have hs15:=ne_of_beq_false hb0;refine A5 ?_;refine Rs 22 ?_ ?_<;>intro hb1
  ·have hs22:=eq_of_beq hb1;refine MW ?_;refine E0 ?_;rw[WQ hs15 (.inl hs22)];rfl
  ·have hs22:=ne_of_beq_false hb1;refine A7 ?_;refine Cd ?_ ?_<;>intro hb2
   ·have hs19:=eq_of_beq hb2;refine A9 ?_;refine E0 ?_;rw[WQ hs15 (.inr hs19)];rfl
   ·have hs19:=ne_of_beq_false hb2;refine A4 ?_;refine Dp [] [0,1,2,4,3,5,6,7] ?_;refine A1 ?_;refine L4 0 0 ?_;refine L4 0 0 ?_;refine L4 1 0 ?_;refine Pc (dQ a a) ?_;refine Pc (Ig (a*a) r) ?_;refine(Aq (dJ a*oC (a*a) r)) (congrArg some (w3 (DV a) (qba _ _))) ?_;refine A4 ?_;refine E0 ?_;rw[qeS hs15 hs22 hs19]
def Ff(x:Rl):aP Tryz.prog 56 #[RV x] (.int .i64 (nH x)):=by
 refine xJ 5 Tryz.func56 fun w=>?_;refine A2 ?_;refine Bp 9 (fun g0=>?_);refine lm ?_;refine Cd ?_ ?_<;>intro hb0
 ·refine A7 ?_;refine E0 ?_;rw[nH,if_pos hb0]
 ·refine A8 ?_;refine E0 ?_;rw[nH,if_neg (by rw[hb0];decide)]
def MG(a:Rat)(u:Int)(r:Rat)(v:Int)(s:Rat)(hu:u= -1∨u=0∨u=1)(hv:v= -1∨v=0∨v=1)(ha:dw a<=200000:=by omega)(hr:dw r<=200000:=by omega)(hs:dw s<=200000:=by omega):aP Tryz.prog 54 #[Q a,.int .i64 u,Q r,.int .i64 v,Q s] (.int .i64 (MC a u r v s)):=by
 have l1:=aS a a;have l2:=bT (a*a) r;have l3:=bJ (a*a+r) s;have l4:=aS (a*a) r;have l5:=aS 4 (a*a*r);have l6:=qbt;have m1:=qbr a r hu;have m2:=m3 hv (DV s);have m3_:=m3 hu (DV a);refine pB5 60 Tryz.func54 fun w=>?_;refine A2 ?_;refine Bp 4 (fun g0=>?_);refine Bp 4 (fun g1=>?_);refine Bp 4 (fun g2=>?_);refine A4 ?_;refine Dp [2000000] [0,1,2,4,5,3,6,7,8,9] ?_;refine L4 0 0 ?_;refine A1 ?_;refine L4 1 0 ?_;refine A1 ?_;refine L4 2 0 ?_;refine Pc (CV a u r hu) ?_;refine Pc (lK s) ?_;refine(Aq (v*dJ s)) (congrArg some (w3 hv (DV s))) ?_;refine lX ?_;refine Rs 27 ?_ ?_<;>intro hb0
 ·have hs27:jR a u r≠v*dJ s:=by have e:=hb0;simpa using e
  refine zT ?_;refine Cd ?_ ?_<;>intro hb1
  ·have hs33:v*dJ s<jR a u r:=of_decide_eq_true hb1;refine A9 ?_;refine E0 ?_;rw[WR (.inl hs27) hs33]
  ·have hs33:¬v*dJ s<jR a u r:=of_decide_eq_false hb1;refine A6 ?_;refine(Aq (jR a u r-v*dJ s)) (by exact(congrArg some (wi (by omega) (by omega) rfl))) ?_;refine A6 ?_;refine E0 ?_;rw[WS (.inl hs27) hs33]
 ·have hs27:jR a u r=v*dJ s:=by have e:=hb0;simpa using e
  refine A6 ?_;refine Cd ?_ ?_<;>intro hb1
  ·have hs29:jR a u r=0:=eq_of_beq hb1;refine A8 ?_;refine Cd ?_ ?_<;>intro hb2
   ·have hs33:v*dJ s<jR a u r:=of_decide_eq_true hb2;refine A9 ?_;refine E0 ?_;rw[WR (.inr hs29) hs33]
   ·have hs33:¬v*dJ s<jR a u r:=of_decide_eq_false hb2;refine A6 ?_;refine(Aq (jR a u r-v*dJ s)) (by exact(congrArg some (wi (by omega) (by omega) rfl))) ?_;refine A6 ?_;refine E0 ?_;rw[WS (.inr hs29) hs33]
  ·have hs29:jR a u r≠0:=ne_of_beq_false hb1;refine A4 ?_;refine Dq [3000000] [0,1,3,2,4,5,6] ?_;refine L4 0 0 ?_;refine L4 0 0 ?_;refine L4 1 0 ?_;refine Pc (dQ a a) ?_;refine Pc (iG (a*a) r) ?_;refine Al 4 qU (fun g3=>?_);refine Ss 3 ?_;refine A3 ?_;refine Dq [3000000] [1,2,4,0,3,5,6,7,8] ?_;refine L4 0 0 ?_;refine L4 0 0 ?_;refine L4 1 0 ?_;refine Pc (jd 4 1) ?_;refine aT 42 (Q 4) rfl (congrArg Q qk7) ?_;refine Pc (dQ a a) ?_;refine Pc (dQ (a*a) r) ?_;refine Pc (dQ 4 (a*a*r)) ?_;refine Al 4 qU (fun g4=>?_);refine Ss 4 ?_;refine A3 ?_;refine Dp [] [0,1,2,4,5,8,3,6,7,9,10,11] ?_;refine A1 ?_;refine L4 3 0 ?_;refine L4 2 0 ?_;refine A1 ?_;refine L4 0 0 ?_;refine L4 4 0 ?_;refine Pc (lC (a*a+r) s) ?_;refine Pc (lK a) ?_;refine(Aq (u*dJ a)) (congrArg some (w3 hu (DV a))) ?_;refine Pc (CV (a*a+r-s) (u*dJ a) (4*(a*a*r)) m3_) ?_;refine(Aq (jR a u r*jR (a*a+r-s) (u*dJ a) (4*(a*a*r)))) (congrArg some (w3 m1 (qbr _ _ m3_))) ?_;refine A4 ?_;refine E0 ?_;rw[qeT (fun e=>e hs27) hs29]
def Fh(f g:Ln)(hf:jo f<=100000:=by omega)(hg:jo g<=100000:=by omega):aP Tryz.prog 45 #[xK f,xK g] (rM (d2 f g)):=by
 have f0:=Nat.le_trans (rQ f) hf;have f1:=Nat.le_trans (rU f) hf;have f2:=Nat.le_trans (rV f) hf;have f3:=Nat.le_trans (rW f) hf;have g0:=Nat.le_trans (rQ g) hg;have g1:=Nat.le_trans (rU g) hg;have g2:=Nat.le_trans (rV g) hg;have g3:=Nat.le_trans (rW g) hg;have s0:=bJ f.x0 g.x0;have s1:=bJ f.x1 g.x1;have s2:=bJ f.y0 g.y0;have s3:=bJ f.y1 g.y1;have m0:=aS (f.x0-g.x0) (f.x0-g.x0);have m1:=aS (f.y0-g.y0) (f.y0-g.y0);have m2:=aS (f.x0-g.x0) (f.x1-g.x1);have m3:=aS (f.y0-g.y0) (f.y1-g.y1);have m4:=aS (f.x1-g.x1) (f.x1-g.x1);have m5:=aS (f.y1-g.y1) (f.y1-g.y1);have m7:=bT ((f.x0-g.x0)*(f.x1-g.x1)) ((f.y0-g.y0)*(f.y1-g.y1));have z2:=Fa;refine oG 55 Tryz.func45 fun w=>?_;refine A2 ?_;refine Bp 16 (fun g0=>?_);refine Bp 16 (fun g1=>?_);refine Al 12 G5 (fun g2=>?_);refine A3 ?_;refine FU (l':=[⟨_,_,_,_,_,_⟩,⟨_,_,_,_,_,_⟩,⟨_,_,_,_,_,_⟩,⟨_,_,_,_,_,_⟩,⟨_,_,_,_,_,_⟩,⟨_,_,_,_,_,_⟩,⟨_,_,_,_,_,_⟩,⟨_,_,_,_,_,_⟩,⟨_,_,_,_,_,_⟩,⟨_,_,_,_,_,_⟩,⟨_,_,_,_,_,_⟩,⟨_,_,_,_,_,_⟩,⟨_,_,_,_,_,_⟩,⟨_,_,_,_,_,_⟩,⟨_,_,_,_,_,_⟩,⟨_,_,_,_,_,_⟩,⟨_,_,_,_,_,_⟩,⟨_,_,_,_,_,_⟩,⟨_,_,_,_,_,_⟩,⟨_,_,_,_,_,_⟩,⟨_,_,_,_,_,_⟩,⟨_,_,_,_,_,_⟩,⟨_,_,_,_,_,_⟩,⟨_,_,_,_,_,_⟩,⟨_,_,_,_,_,_⟩,⟨_,_,_,_,_,_⟩,⟨_,_,_,_,_,_⟩,⟨_,_,_,_,_,_⟩]) [3000000] [0,1,2,3,5,6,7,8,10,11,12,13,15,16,17,18,4,9,14,19,20,21,22,23,24,25,26,27] mixed (VD [0,1,0,4,15,0,32,0,128,511,0,1024,0,4096,16383,0,32768,0,131072,524287,0,0,0,0,16777215,33554431,67108863,134217727] (by kernel_rfl)) rfl ?_;refine A1 ?_;refine L4 0 0 ?_;refine A1 ?_;refine L4 1 0 ?_;refine A1 ?_;refine L4 0 4 ?_;refine A1 ?_;refine L4 1 4 ?_;refine A1 ?_;refine L4 0 8 ?_;refine A1 ?_;refine L4 1 8 ?_;refine A1 ?_;refine L4 0 12 ?_;refine A1 ?_;refine L4 1 12 ?_;refine Pc (lC f.x0 g.x0) ?_;refine Pc (lC f.x1 g.x1) ?_;refine Pc (lC f.y0 g.y0) ?_;refine Pc (lC f.y1 g.y1) ?_;refine Al 4 qU (fun g3=>?_);refine Al 4 qU (fun g4=>?_);refine Al 4 qU (fun g5=>?_);refine Al 4 qU (fun g6=>?_);refine Ss 3 ?_;refine Ss 4 ?_;refine Ss 5 ?_;refine Ss 6 ?_;refine A4 ?_;refine Pc (jd 2 1) ?_;refine aT 30 (Q 2) rfl (congrArg Q qjp) ?_;refine Al 4 qU (fun g7=>?_);refine Ss 7 ?_;refine A3 ?_;refine Dp [] [0,1,3,4,7,8,9,11,12,16,17,19,20,2,5,6,10,13,14,15,18,21,22,23,24] ?_ (hc:=(oz [0,0,3,0,0,31,63,0,0,0,895,0,0,8063,16255,32767,0,0,262143,0,0,2097151,4194303,8388607,16777215] (by kernel_rfl)));refine L4 3 0 ?_;refine L4 3 0 ?_;refine L4 5 0 ?_;refine L4 5 0 ?_;refine L4 7 0 ?_;refine L4 3 0 ?_;refine L4 4 0 ?_;refine L4 5 0 ?_;refine L4 6 0 ?_;refine L4 4 0 ?_;refine L4 4 0 ?_;refine L4 6 0 ?_;refine L4 6 0 ?_;refine Pc (dQ (f.x0-g.x0) (f.x0-g.x0)) ?_;refine Pc (dQ (f.y0-g.y0) (f.y0-g.y0)) ?_;refine Pc (iG ((f.x0-g.x0)*(f.x0-g.x0)) ((f.y0-g.y0)*(f.y0-g.y0))) ?_;refine Pc (dQ (f.x0-g.x0) (f.x1-g.x1)) ?_;refine Pc (dQ (f.y0-g.y0) (f.y1-g.y1)) ?_;refine Pc (iG ((f.x0-g.x0)*(f.x1-g.x1)) ((f.y0-g.y0)*(f.y1-g.y1))) ?_;refine Pc (dQ 2 ((f.x0-g.x0)*(f.x1-g.x1)+(f.y0-g.y0)*(f.y1-g.y1))) ?_;refine Pc (dQ (f.x1-g.x1) (f.x1-g.x1)) ?_;refine Pc (dQ (f.y1-g.y1) (f.y1-g.y1)) ?_;refine Pc (iG ((f.x1-g.x1)*(f.x1-g.x1)) ((f.y1-g.y1)*(f.y1-g.y1))) ?_;refine(Bu [(0,_),(1,_),(2,_)]) (F5) ?_;refine Ss 2 ?_;refine A3 ?_;refine JQ 2 ?_;exact rfl
def vJ(l:List PU)(lb:Option Nat)(lN lc:Nat)(hlc:l.length<=lc:=by omega)(hln:l.length<=1000:=by omega):dh Tryz.prog 91 [⟨lb,100,ah aQ l,lN,false⟩] [az lb 0 l.length lc] (SR ((id) l).length) SR.v (fun z=>[⟨z.b,201,ah aQ ((id) l),z.n,true⟩]):=by
 refine Md 22 Tryz.func91 fun w hL0=>?_;refine A19 ?_;refine El (ι:={z:Nat×List PU×Option Nat×Nat×Nat // z.1<=l.length∧z.2.1=(id) (l.take z.1)∧z.2.1.length<=z.2.2.2.2∧z.2.2.2.2*36<=z.2.2.2.1}) (fun⟨⟨i,o,ob,oN,oc⟩,hi,hI,h3,h4⟩=>([(3,az ob 0 o.length oc),(6,az lb 0 l.length lc),(7,bz (l.length)),(8,bz i)],[⟨lb,100,ah aQ l,lN,false⟩,⟨ob,201,ah aQ o,oN,true⟩],l.length-i)) ⟨⟨0,[],none,0,0⟩,Nat.zero_le _,rfl,Nat.le_refl _,by simp⟩ ?_ (hL:=(au [some 0,none] ⟨pR,⟨rfl,rfl,rfl⟩,trivial⟩ rfl rfl));rintro⟨⟨i,o,ob,oN,oc⟩,hi,hI,h3,h4⟩;(try dsimp only);replace hi:i<=l.length:=hi;replace hI:o=(id) (l.take i):=hI;replace h3:o.length<=oc:=h3;replace h4:oc*36<=oN:=h4
 have hol:o.length<=100000:=(by rw[hI];simp;omega);refine A6 ?_;refine Cd ?_ ?_<;>intro hb1
 ·have hlt:i<l.length:=(by have:=of_decide_eq_true hb1;omega);obtain⟨x,hx⟩:∃x,l[i]? =some x:=⟨l[i],List.getElem?_eq_getElem hlt⟩;refine fD 0 rfl (aC.ne (by decide) (by omega)) (fun hbs=>?_);obtain⟨gl,hgl⟩:=Option.isSome_iff_exists.1 hbs;replace hgl:lb=some gl:=hgl;subst hgl;refine A6 ?_;refine ai 0 ((i)*36) JO wB rfl rfl rfl rfl rfl (by omega) (by omega) (aC.ne (by decide) (by omega)) (by show 0+Int.toNat _*36=_;omega) ?_;refine aO (v:=U3 x) 0 ((i)*36) _ rfl rfl rfl rfl wB (aC.sub hx 0 36 (by decide)) rfl (by decide) rfl ?_;refine Al 36 qky (fun g0=>?_);refine Ss 2 ?_;refine A5 ?_;refine yB 2 0 ?_;refine A1 ?_;refine Qs 2 20 ?_;refine(Bu [(0,_),(1,_)]) (Eu) ?_;refine(Bl 36 [(0,_)]) (rF) (fun g1=>?_);refine(Qa (s:=36) (len:=o.length) (n2:=1) 1 3 (fun r=>[_,⟨some r.g,201,ah aQ o++aQ (x),r.n,true⟩,_,_]) kX Ae) (aC.length o) h3 h4 (aC.one (x)) (fun r=>?_);refine A5 ?_;refine Ar (((i+1:Nat):Int)) ?_;refine A3 ?_;exact Nl ⟨⟨i+1,o++[x],some r.g,r.n,r.cap⟩,hlt,by show o++[x]=l.take (i+1);rw[hI];exact dD hx,by rw[List.length_append];exact r.h,r.hn⟩ (hμ:=(by show l.length-(i+1)<l.length-i;omega)) (ht:=⟨(aB rfl (by rw[List.length_append];rfl)),rfl,rfl,rfl,trivial⟩) (hL:=(au [some 0,some 1] ⟨pR,⟨_,rfl,aI (by rw[bH])⟩,trivial⟩ rfl rfl))
 ·have hge:i=l.length:=(by have:=of_decide_eq_false hb1;omega);subst hge;obtain rfl:o=(id) l:=by rw[hI,List.take_length]
  refine lX ?_;refine aH rfl (aj rfl) (fun w hL=>⟨⟨ob,oN,oc,h3⟩,?_,hL.pk [some 1]⟩);exact rfl
def gQ(x y:Rl)(hx:gY x<=50000:=by omega)(hy:gY y<=50000:=by omega):aP Tryz.prog 20 #[RV x,RV y] (.int .i64 (bW x y)):=by
 have x1:=Nat.le_trans (sO x) hx;have x2:=Nat.le_trans (yj x) hx;have y1:=Nat.le_trans (sO y) hy;have y2:=Nat.le_trans (yj y) hy;have l1:=bJ x.p y.p;have hcm:=qeq x y;refine oG 26 Tryz.func20 fun w=>?_;refine A2 ?_;refine Bp 9 (fun g0=>?_);refine Bp 9 (fun g1=>?_);refine A4 ?_;refine Dp [] [0,1,2,3,5,7,8,9,11,12,4,6,10,13,14] ?_;refine A1 ?_;refine L4 0 0 ?_;refine A1 ?_;refine L4 1 0 ?_;refine L9 0 0 ?_;refine A1 ?_;refine L4 0 4 ?_;refine L9 1 0 ?_;refine A1 ?_;refine L4 1 4 ?_;refine Pc (lC x.p y.p) ?_;refine Pc (Ff x) ?_;refine Pc (Ff y) ?_;refine Pc (MG (x.p-y.p) (nH x) x.r (nH y) y.r (qbs x) (qbs y)) ?_;refine lX ?_;refine Cd ?_ ?_<;>intro hb0
 ·refine A8 ?_;refine E0 ?_;rw[<-hcm,qaV,if_pos (of_decide_eq_true hb0)]
 ·refine A7 ?_;refine Cd ?_ ?_<;>intro hb1
  ·refine A8 ?_;refine E0 ?_;rw[<-hcm,qaV,if_neg (of_decide_eq_false hb0),if_pos (of_decide_eq_true hb1)]
  ·refine A9 ?_;refine E0 ?_;rw[<-hcm,qaV,if_neg (of_decide_eq_false hb0),if_neg (of_decide_eq_false hb1)]
def Vb(i:Iv)(t:Rl)(hi:jV i<=50000:=by omega)(ht:gY t<=50000:=by omega):aP Tryz.prog 52 #[kF i,RV t] (.bool (D7 i t)):=by
 have i1:=Nat.le_trans (kw i) hi;have i2:=Nat.le_trans (kz i) hi;refine oG 39 Tryz.func52 fun w=>?_;refine A2 ?_;refine Bp 20 (fun g0=>?_);refine Bp 9 (fun g1=>?_);refine A4 ?_;refine Dp [] [0,1,2,4,5,6,3,7,8,9] ?_;refine A1 ?_;refine L9 0 0 ?_;refine L9 1 0 ?_;refine L9 1 0 ?_;refine A1 ?_;refine L9 0 9 ?_;refine Pc (gQ i.f t (by omega) ht) ?_;refine Pc (gQ t i.t ht) ?_;refine A9 ?_;refine Rs 17 ?_ ?_<;>intro hb0
 ·refine lX ?_;refine Rs 29 ?_ ?_<;>intro hb1
  ·refine CB ?_;refine E0 ?_;exact eB (by unfold D7;first|(simp_all;done)|(simp_all;omega)|(simp_all;intros;omega))
  ·refine A3 ?_;refine Rs 32 ?_ ?_<;>intro hb2
   ·refine lm ?_;refine E0 ?_;exact eB (by unfold D7;first|(simp_all;done)|(simp_all;omega)|(simp_all;intros;omega))
   ·refine lm ?_;refine E0 ?_;exact eB (by unfold D7;first|(simp_all;done)|(simp_all;omega)|(simp_all;intros;omega))
 ·refine A3 ?_;refine Rs 20 ?_ ?_<;>intro hb1
  ·refine A6 ?_;refine Rs 26 ?_ ?_<;>intro hb2
   ·refine A3 ?_;refine Rs 29 ?_ ?_<;>intro hb3
    ·refine CB ?_;refine E0 ?_;exact eB (by unfold D7;first|(simp_all;done)|(simp_all;omega)|(simp_all;intros;omega))
    ·refine A3 ?_;refine Rs 32 ?_ ?_<;>intro hb4
     ·refine lm ?_;refine E0 ?_;exact eB (by unfold D7;first|(simp_all;done)|(simp_all;omega)|(simp_all;intros;omega))
     ·refine lm ?_;refine E0 ?_;exact eB (by unfold D7;first|(simp_all;done)|(simp_all;omega)|(simp_all;intros;omega))
   ·refine IG ?_;refine E0 ?_;exact eB (by unfold D7;first|(simp_all;done)|(simp_all;omega)|(simp_all;intros;omega))
  ·refine A22 ?_;refine E0 ?_;exact eB (by unfold D7;first|(simp_all;done)|(simp_all;omega)|(simp_all;intros;omega))
def Vd(p r:Rat)(n:Bool)(hp:dw p<=1000000:=by omega)(hr:dw r<=1000000:=by omega):aP Tryz.prog 100 #[Q p,Q r,.bool n] (RV (ofM p r n)):=by
 have l1:=PR r;have l2:=dI (nD r);refine pB3 26 Tryz.func100 fun w=>?_;refine A2 ?_;refine Bp 4 (fun g0=>?_);refine Bp 4 (fun g1=>?_);refine Al 9 O5 (fun g2=>?_);refine A5 ?_;refine L4 1 0 ?_;refine Pc (P6 r) ?_;refine A3 ?_;refine Al 4 qU (fun g3=>?_);refine Ss 3 ?_;refine A8 ?_;refine Cd ?_ ?_<;>intro hb0
 ·have hs14:BM r=true:=hb0;refine A6 ?_;refine Cd ?_ ?_<;>intro hb1
  ·have hs15:n=true:=hb1;refine A1 ?_;refine L4 3 0 ?_;refine aT 16 (Q (nD r)) rfl (by rw[hs14,if_pos rfl];rfl) ?_;refine Pc (Ho (nD r)) ?_;refine Ss 3 ?_;refine A4 ?_;refine L4 0 0 ?_;refine L4 3 0 ?_;refine Pc (iG p (-nD r)) ?_;refine(Bu [(0,_)]) (JK) ?_;refine Ss 2 ?_;refine A4 ?_;refine Ed9 2 ?_;rw[ofM,hs14,if_pos rfl,if_pos hs15,Ob]
  ·have hs15:n=false:=hb1;refine A4 ?_;refine L4 0 0 ?_;refine L4 3 0 ?_;refine aT 19 (Q (nD r)) rfl (by rw[hs14,if_pos rfl];rfl) ?_;refine Pc (iG p (nD r)) ?_;refine(Bu [(0,_)]) (JK) ?_;refine Ss 2 ?_;refine A4 ?_;refine Ed9 2 ?_;rw[ofM,hs14,if_pos rfl,if_neg (by rw[hs15];decide),Ob]
 ·have hs14:BM r=false:=hb0;refine A4 ?_;refine L4 0 0 ?_;refine L4 1 0 ?_;refine A1 ?_;refine(Bu [(0,_),(1,_),(2,_)]) (ZX) ?_;refine Ss 2 ?_;refine A3 ?_;refine Ed9 2 ?_;rw[ofM,hs14,if_neg (by decide)];rfl
def KL(f:Qd)(t:Rl)(h0:t.ok)(hf:uB f<=10000:=by omega)(ht:gY t<=10000:=by omega):aP Tryz.prog 46 #[rM f,RV t] (RV (NW f t)):=by
 have hz:=qbu hf ht;have z0:=Nat.le_trans (ql (mg f t)) hz;have z1:=Nat.le_trans (qo (mg f t)) hz;have t1:=Nat.le_trans (sO t) ht;have t2:=Nat.le_trans (yj t) ht;have l1:=aS (mg f t).c1 t.p;have l2:=bT (mg f t).c0 ((mg f t).c1*t.p);have l3:=aS (mg f t).c1 (mg f t).c1;have l4:=aS ((mg f t).c1*(mg f t).c1) t.r;refine oG 35 Tryz.func46 fun w=>?_;refine A2 ?_;refine Bp 12 (fun g0=>?_);refine Bp 9 (fun g1=>?_);refine Al 9 O5 (fun g2=>?_);refine A4 ?_;refine ut 0 0 ?_;refine L9 1 0 ?_;refine Pc (KJ f t) ?_;refine Al 12 G5 (fun g3=>?_);refine Ss 3 ?_;refine A3 ?_;refine Dq [3000000] [0,1,2,3,4,5,6,7,8,9] ?_;refine A1 ?_;refine L4 3 0 ?_;refine A1 ?_;refine L4 3 4 ?_;refine A1 ?_;refine L4 1 0 ?_;refine Pc (dQ (mg f t).c1 t.p) ?_;refine Pc (iG (mg f t).c0 ((mg f t).c1*t.p)) ?_;refine Al 4 qU (fun g4=>?_);refine Ss 4 ?_;refine A3 ?_;refine Dp [] [0,1,2,3,4,6,7,9,10,11,12,5,8,13,14,15,16,17] ?_;refine L4 4 0 ?_;refine A1 ?_;refine L4 3 4 ?_;refine A1 ?_;refine L4 3 4 ?_;refine A1 ?_;refine L4 1 4 ?_;refine A3 ?_;refine L4 3 4 ?_;refine Pc (dQ (mg f t).c1 (mg f t).c1) ?_;refine Pc (dQ ((mg f t).c1*(mg f t).c1) t.r) ?_;refine Pc (lK (mg f t).c1) ?_;refine A1 ?_;refine pq rfl u4 rfl rfl rfl ?_;refine Pc (Vd ((mg f t).c0+(mg f t).c1*t.p) ((mg f t).c1*(mg f t).c1*t.r) (t.n !=decide (dJ (mg f t).c1<0))) ?_;refine Ss 2 ?_;refine A3 ?_;refine Ed9 2 ?_;rw[<-qhg h0];rfl
def KN(l:List Rl)(lb:Option Nat)(lN lc:Nat)(hlc:l.length<=lc)(hln:l.length<=4000)(hsz:∀x∈l,gY x<=50000):dh Tryz.prog 147 [⟨lb,38,ah iD l,lN,false⟩] [az lb 0 l.length lc] (SR (fG l).length) SR.v (fun z=>[⟨z.b,38,ah iD (fG l),z.n,true⟩]):=by
 refine Md 62 Tryz.func147 fun w hL0=>?_;refine MW ?_;refine El (ι:={z:Nat×List Rl×Option Nat×Nat×Nat // z.1<=l.length∧z.2.1=fG (l.take z.1)∧z.2.1.length<=z.2.2.2.2∧z.2.2.2.2*9<=z.2.2.2.1}) (fun⟨⟨i,o,ob,oN,oc⟩,hi,hI,h3,h4⟩=>([(0,az lb 0 l.length lc),(3,az ob 0 o.length oc),(4,bz i)],[⟨lb,38,ah iD l,lN,false⟩,⟨ob,38,ah iD o,oN,true⟩],l.length-i)) ⟨⟨0,[],none,0,0⟩,Nat.zero_le _,rfl,Nat.le_refl _,by simp⟩ ?_ (hL:=(au [some 0,none] ⟨pR,⟨rfl,rfl,rfl⟩,trivial⟩ rfl rfl));rintro⟨⟨i,o,ob,oN,oc⟩,hi,hI,h3,h4⟩;(try dsimp only);replace hi:i<=l.length:=hi;replace hI:o=fG (l.take i):=hI;replace h3:o.length<=oc:=h3;replace h4:oc*9<=oN:=h4
 have hos:∀y∈o,gY y<=50000:=(by rw[hI];exact WU (p:=fun y=>gY y<=50000) fun y hy=>hsz y (List.mem_of_mem_take hy));have hol:o.length<=4000:=(by rw[hI];have:=PZ (l.take i);rw[List.length_take] at this;omega);refine rH 1 rfl (fun hbase=>?_);have hobs:o.length=0∨∃g,ob=some g:=sS dK (by decide) hbase;refine A9 ?_;refine Cd ?_ ?_<;>intro hb1
 ·have hlt:i<l.length:=(by have:=of_decide_eq_true hb1;omega);obtain⟨x,hx⟩:∃x,l[i]? =some x:=⟨l[i],List.getElem?_eq_getElem hlt⟩;have hxs:=hsz x (List.mem_of_getElem? hx);refine oO ?_;refine El (ι:={k:Nat // k<=o.length∧∀j y,j<k->o[j]? =some y->bW y x<0}) (fun⟨k,hk,hall⟩=>([(0,az lb 0 l.length lc),(3,az ob 0 o.length oc),(4,bz i),(5,bz k)],[⟨lb,38,ah iD l,lN,false⟩,⟨ob,38,ah iD o,oN,true⟩],o.length-k)) ⟨0,Nat.zero_le _,fun j y hj=>absurd hj (by omega)⟩ ?_ (hL:=eG.auto);rintro⟨k,hk,hall⟩;(try dsimp only);refine A2 ?_;refine Di [] ?_;refine A5 ?_;refine Rs 16 ?_ ?_<;>intro hb3
  ·have hklt:k<o.length:=(by have:=of_decide_eq_true hb3;omega);obtain⟨y,hy⟩:∃y,o[k]? =some y:=⟨o[k],List.getElem?_eq_getElem hklt⟩;have hys:=hos y (List.mem_of_getElem? hy);refine A2 ?_;refine ai 1 ((k)*9) pW iT rfl rfl rfl rfl rfl (by omega) (by omega) (dK.ne (by decide) (by omega)) (by show 0+Int.toNat _*9=_;omega) ?_;refine aO (v:=RV y) 1 ((k)*9) _ rfl rfl rfl rfl iT (dK.sub hy 0 9 (by decide)) rfl (by decide) rfl ?_;refine A2 ?_;refine ai 0 ((i)*9) pW iT rfl rfl rfl rfl rfl (by omega) (by omega) (dK.ne (by decide) (by omega)) (by show 0+Int.toNat _*9=_;omega) ?_;refine aO (v:=RV x) 0 ((i)*9) _ rfl rfl rfl rfl iT (dK.sub hx 0 9 (by decide)) rfl (by decide) rfl ?_;refine Pc (gQ y x hys hxs) ?_;refine A4 ?_;refine Cd ?_ ?_<;>intro hb4
   ·have hylt:bW y x<0:=of_decide_eq_true hb4;refine A5 ?_;refine Ar (((k+1:Nat):Int)) ?_;refine A4 ?_;exact Nl ⟨k+1,hklt,fun j z hj hz=>by by_cases e:j<k;exact hall j z e hz;(have:j=k:=by omega);subst this;rw[hy] at hz;cases hz;exact hylt⟩ (hL:=eG.auto)
   ·have hyge:¬bW y x<0:=of_decide_eq_false hb4;refine A7 ?_;refine Di [] ?_;refine A5 ?_;refine Rs 34 ?_ ?_<;>intro hb5
    ·refine A2 ?_;refine ai 1 ((k)*9) pW iT rfl rfl rfl rfl rfl (by omega) (by omega) (dK.ne (by decide) (by omega)) (by show 0+Int.toNat _*9=_;omega) ?_;refine aO (v:=RV y) 1 ((k)*9) _ rfl rfl rfl rfl iT (dK.sub hy 0 9 (by decide)) rfl (by decide) rfl ?_;refine A2 ?_;refine ai 0 ((i)*9) pW iT rfl rfl rfl rfl rfl (by omega) (by omega) (dK.ne (by decide) (by omega)) (by show 0+Int.toNat _*9=_;omega) ?_;refine aO (v:=RV x) 0 ((i)*9) _ rfl rfl rfl rfl iT (dK.sub hx 0 9 (by decide)) rfl (by decide) rfl ?_;refine Pc (gQ y x hys hxs) ?_;refine A4 ?_;refine Cd ?_ ?_<;>intro hb6
     ·have hye:bW y x=0:=eq_of_beq hb6;have hsame:=WT hy hall hyge hye;refine A6 ?_;refine Ar (((i+1:Nat):Int)) ?_;refine A3 ?_;exact Nl ⟨⟨i+1,o,ob,oN,oc⟩,hlt,by show o=fG (l.take (i+1));rw[KI hx,<-hI,hsame],h3,h4⟩ (hμ:=(by show l.length-(i+1)<l.length-i;omega)) (hL:=eG.auto)
     ·have hye:bW y x≠0:=ne_of_beq_false hb6;have hins:=PY (x:=x) hk hall (fun z hz=>by rw[hy] at hz;cases hz;exact⟨hyge,hye⟩);refine A2 ?_;refine Dl (X:={z:Option Nat×Nat×Nat×Nat // 0+k+1+(o.length-k)<=z.2.2.1∧z.2.2.1*9<=z.2.1}) (l':=[⟨_,_,_,_,_,_⟩,⟨_,_,_,_,_,_⟩,⟨_,_,_,_,_,_⟩,⟨_,_,_,_,_,_⟩,⟨_,_,_,_,_,_⟩,⟨_,_,_,_,_,_⟩,⟨_,_,_,_,_,_⟩,⟨_,_,_,_,_,_⟩]) (fun⟨⟨rb,rn,rc,gx⟩,rh,rhn⟩=>[(0,az lb 0 l.length lc),(3,az rb 0 (0+k+1+(o.length-k)) rc),(4,bz i)]) (fun⟨⟨rb,rn,rc,gx⟩,rh,rhn⟩=>[⟨lb,38,ah iD l,lN,false⟩,⟨ob,38,ah iD o,oN,true⟩,⟨rb,38,(ah iD (o.take k)++iD x)++ah iD (o.drop k),rn,true⟩,⟨some gx,38,iD x,9,true⟩]) [1,2,3,5,6,11,12,13] 8 mixed (by kernel_rfl) rfl ?_ ?_
      ·refine A2 ?_;refine iI k pW iT rfl rfl rfl rfl (by omega) (by omega) rfl ?_;refine A4 ?_;refine iJ k pW iT rfl rfl rfl rfl (by omega) rfl rfl rfl ?_;refine A1 ?_
       repeat' first
        |exact⟨⟨(r3.b,r3.n,r3.cap,g1),r3.h,r3.hn⟩,rfl,⟨rfl,rfl,rfl,trivial⟩,(by first|exact List.Perm.refl _|exact((List.Perm.swap _ _ _).cons _).cons _)⟩
        |exact⟨⟨(r3.b,r3.n,r3.cap,g0),r3.h,r3.hn⟩,rfl,⟨rfl,rfl,rfl,trivial⟩,(by first|exact List.Perm.refl _|exact((List.Perm.swap _ _ _).cons _).cons _)⟩
        |refine IE ?_
        |refine Eg rfl rfl rfl ?_
        |refine(Bl 9 [(0,_)]) (Ew) (fun g1=>?_)
        |refine fK (s:=9) (len:=0+k) (n2:=1) 2 3 (iD x) (fun r2=>[_,_,⟨r2.b,38,ah iD (o.take k)++iD x,r2.n,true⟩,_]) pW Cb rfl rfl rfl rfl rfl rfl rfl rfl rfl rfl (by rw[dK.lenTake hk,Nat.zero_add]) r.h r.hn (.inr ⟨_,rfl⟩) rfl rfl (dK.one x) (by omega) (fun _=>rfl) (fun r2=>?_)
        |refine(Qo (s:=9) (len:=0+k+1) 2 1 (ah iD (o.drop k)) (fun r3=>[_,_,⟨r3.b,38,(ah iD (o.take k)++iD x)++ah iD (o.drop k),r3.n,true⟩,_]) pW Cb) (by exact(by rw[List.length_append,dK.lenTake hk,dK.len];omega)) r2.h r2.hn (by exact(hobs.imp (fun e=>by omega) id)) (dK.dropT h3 hk) (dK.lenDrop o k) (dK.ones _) (fun r3=>?_)
        |refine fK (s:=9) (len:=0) 2 1 (ah iD (o.take k)) (fun r=>[_,_,⟨r.b,38,ah iD (o.take k),r.n,true⟩]) pW Cb rfl rfl rfl rfl rfl rfl rfl rfl rfl rfl rfl (Nat.le_refl _) (Nat.le_refl _) (hobs.imp (fun e=>by omega) id) (dK.takeR o k) (dK.lenTake hk) (dK.ones _) (by omega) (fun _=>rfl) (fun r=>?_)
        |refine aO (v:=RV x) 0 ((i)*9) _ rfl rfl rfl rfl iT (dK.sub hx 0 9 (by decide)) rfl (by decide) rfl ?_
        |refine(Bl 0 []) (IP) (fun g0=>?_)
        |refine ai 0 ((i)*9) pW iT rfl rfl rfl rfl rfl (by omega) (by omega) (dK.ne (by decide) (by omega)) (by show 0+Int.toNat _*9=_;omega) ?_
        |refine fK (s:=9) (len:=0) 2 1 (ah iD (o.take k)) (fun r=>[_,_,⟨r.b,38,ah iD (o.take k),r.n,true⟩,_]) pW Cb rfl rfl rfl rfl rfl rfl rfl rfl rfl rfl rfl (Nat.le_refl _) (Nat.le_refl _) (hobs.imp (fun e=>by omega) id) (dK.takeR o k) (dK.lenTake hk) (dK.ones _) (by omega) (fun _=>rfl) (fun r=>?_)
        |refine(Bl 9 [(0,_)]) (Ew) (fun g0=>?_)
        |refine(Bl 0 []) (IP) (fun g1=>?_)
        |refine fK (s:=9) (len:=0) 3 1 (ah iD (o.take k)) (fun r=>[_,_,_,⟨r.b,38,ah iD (o.take k),r.n,true⟩]) pW Cb rfl rfl rfl rfl rfl rfl rfl rfl rfl rfl rfl (Nat.le_refl _) (Nat.le_refl _) (hobs.imp (fun e=>by omega) id) (dK.takeR o k) (dK.lenTake hk) (dK.ones _) (by omega) (fun _=>rfl) (fun r=>?_)
        |refine fK (s:=9) (len:=0+k) (n2:=1) 3 2 (iD x) (fun r2=>[_,_,_,⟨r2.b,38,ah iD (o.take k)++iD x,r2.n,true⟩]) pW Cb rfl rfl rfl rfl rfl rfl rfl rfl rfl rfl (by rw[dK.lenTake hk,Nat.zero_add]) r.h r.hn (.inr ⟨_,rfl⟩) rfl rfl (dK.one x) (by omega) (fun _=>rfl) (fun r2=>?_)
        |refine(Qo (s:=9) (len:=0+k+1) 3 1 (ah iD (o.drop k)) (fun r3=>[_,_,_,⟨r3.b,38,(ah iD (o.take k)++iD x)++ah iD (o.drop k),r3.n,true⟩]) pW Cb) (by exact(by rw[List.length_append,dK.lenTake hk,dK.len];omega)) r2.h r2.hn (by exact(hobs.imp (fun e=>by omega) id)) (dK.dropT h3 hk) (dK.lenDrop o k) (dK.ones _) (fun r3=>?_)
        |refine Ue (by decide+kernel) ?_
        |refine fQ [10] (by decide+kernel) rfl ⟨⟨_,rfl,?_⟩,trivial⟩
        |refine fQ [14] (by decide+kernel) rfl ⟨⟨_,rfl,?_⟩,trivial⟩
        |refine fQ [15] (by decide+kernel) rfl ⟨⟨_,rfl,?_⟩,trivial⟩
        |refine fQ [9] (by decide+kernel) rfl ⟨⟨_,rfl,?_⟩,trivial⟩
        |refine fQ [4] (by decide+kernel) rfl ⟨⟨_,rfl,?_⟩,trivial⟩
        |refine fQ [8] (by decide+kernel) rfl ⟨⟨_,rfl,?_⟩,trivial⟩
        |refine fQ [4,9] (by decide+kernel) rfl ⟨⟨_,rfl,?_⟩,⟨_,rfl,?_⟩,trivial⟩
        |refine fQ [4,8] (by decide+kernel) rfl ⟨⟨_,rfl,?_⟩,⟨_,rfl,?_⟩,trivial⟩
        |refine fQ [0,7] (by decide+kernel) rfl ⟨⟨_,rfl,?_⟩,⟨_,rfl,?_⟩,trivial⟩
        |refine fQ [4,7] (by decide+kernel) rfl ⟨⟨_,rfl,?_⟩,⟨_,rfl,?_⟩,trivial⟩
        |refine fQ [7] (by decide+kernel) rfl ⟨⟨_,rfl,?_⟩,trivial⟩
        |refine fQ [0,8] (by decide+kernel) rfl ⟨⟨_,rfl,?_⟩,⟨_,rfl,?_⟩,trivial⟩
        |refine fQ [0,9] (by decide+kernel) rfl ⟨⟨_,rfl,?_⟩,⟨_,rfl,?_⟩,trivial⟩
        |refine fQ [0] (by decide+kernel) rfl ⟨⟨_,rfl,?_⟩,trivial⟩
      rintro⟨⟨rb,rn,rc,gx⟩,rh,rhn⟩;show At _ ⟨62,[(0,az lb 0 l.length lc),(3,az rb 0 (0+k+1+(o.length-k)) rc),(4,bz i)],[⟨lb,38,ah iD l,lN,false⟩,⟨ob,38,ah iD o,oN,true⟩,⟨rb,38,(ah iD (o.take k)++iD x)++ah iD (o.drop k),rn,true⟩,⟨some gx,38,iD x,9,true⟩]⟩ _;refine A4 ?_;refine Ar (((i+1:Nat):Int)) ?_;refine A3 ?_;exact Nl ⟨⟨i+1,o.take k++x::o.drop k,rb,rn,rc⟩,hlt,by show _=fG (l.take (i+1));rw[KI hx,<-hI,hins],by have:=rh;simp at this ⊢;omega,rhn⟩ (hμ:=(by show l.length-(i+1)<l.length-i;omega)) (ht:=⟨rfl,(aB rfl (by show az rb 0 (0+k+1+(o.length-k)) rc=az rb 0 (o.take k++x::o.drop k).length rc;congr 1;simp;omega)),rfl,trivial⟩) (hL:=(au [some 0,some 2] ⟨pR,⟨_,rfl,aI (by rw[kC,ig,List.append_assoc])⟩,trivial⟩ rfl rfl))
    ·exfalso;have:=of_decide_eq_false hb5;omega
  ·have hkl:k=o.length:=(by have:=of_decide_eq_false hb3;omega);have hins:=PY (x:=x) hk hall (fun y hy=>absurd (List.getElem?_eq_some_iff.1 hy).1 (by omega));refine A21 ?_;refine Di [] ?_;refine A5 ?_;refine Rs 34 ?_ ?_<;>intro hb4
   ·exfalso;have:=of_decide_eq_true hb4;omega
   ·refine IG ?_;refine Dl (X:={z:Option Nat×Nat×Nat×Nat // 0+k+1+(o.length-k)<=z.2.2.1∧z.2.2.1*9<=z.2.1}) (l':=[⟨_,_,_,_,_,_⟩,⟨_,_,_,_,_,_⟩,⟨_,_,_,_,_,_⟩,⟨_,_,_,_,_,_⟩,⟨_,_,_,_,_,_⟩,⟨_,_,_,_,_,_⟩,⟨_,_,_,_,_,_⟩,⟨_,_,_,_,_,_⟩]) (fun⟨⟨rb,rn,rc,gx⟩,rh,rhn⟩=>[(0,az lb 0 l.length lc),(3,az rb 0 (0+k+1+(o.length-k)) rc),(4,bz i)]) (fun⟨⟨rb,rn,rc,gx⟩,rh,rhn⟩=>[⟨lb,38,ah iD l,lN,false⟩,⟨ob,38,ah iD o,oN,true⟩,⟨rb,38,(ah iD (o.take k)++iD x)++ah iD (o.drop k),rn,true⟩,⟨some gx,38,iD x,9,true⟩]) [1,2,3,5,6,11,12,13] 8 mixed (by kernel_rfl) rfl ?_ ?_
    ·refine A2 ?_;refine iI k pW iT rfl rfl rfl rfl (by omega) (by omega) rfl ?_;refine A4 ?_;refine iJ k pW iT rfl rfl rfl rfl (by omega) rfl rfl rfl ?_;refine A1 ?_
     repeat' first
      |exact⟨⟨(r3.b,r3.n,r3.cap,g1),r3.h,r3.hn⟩,rfl,⟨rfl,rfl,rfl,trivial⟩,(by first|exact List.Perm.refl _|exact((List.Perm.swap _ _ _).cons _).cons _)⟩
      |exact⟨⟨(r3.b,r3.n,r3.cap,g0),r3.h,r3.hn⟩,rfl,⟨rfl,rfl,rfl,trivial⟩,(by first|exact List.Perm.refl _|exact((List.Perm.swap _ _ _).cons _).cons _)⟩
      |refine IE ?_
      |refine Eg rfl rfl rfl ?_
      |refine(Bl 9 [(0,_)]) (Ew) (fun g1=>?_)
      |refine fK (s:=9) (len:=0+k) (n2:=1) 2 3 (iD x) (fun r2=>[_,_,⟨r2.b,38,ah iD (o.take k)++iD x,r2.n,true⟩,_]) pW Cb rfl rfl rfl rfl rfl rfl rfl rfl rfl rfl (by rw[dK.lenTake hk,Nat.zero_add]) r.h r.hn (.inr ⟨_,rfl⟩) rfl rfl (dK.one x) (by omega) (fun _=>rfl) (fun r2=>?_)
      |refine(Qo (s:=9) (len:=0+k+1) 2 1 (ah iD (o.drop k)) (fun r3=>[_,_,⟨r3.b,38,(ah iD (o.take k)++iD x)++ah iD (o.drop k),r3.n,true⟩,_]) pW Cb) (by exact(by rw[List.length_append,dK.lenTake hk,dK.len];omega)) r2.h r2.hn (by exact(hobs.imp (fun e=>by omega) id)) (dK.dropT h3 hk) (dK.lenDrop o k) (dK.ones _) (fun r3=>?_)
      |refine fK (s:=9) (len:=0) 2 1 (ah iD (o.take k)) (fun r=>[_,_,⟨r.b,38,ah iD (o.take k),r.n,true⟩]) pW Cb rfl rfl rfl rfl rfl rfl rfl rfl rfl rfl rfl (Nat.le_refl _) (Nat.le_refl _) (hobs.imp (fun e=>by omega) id) (dK.takeR o k) (dK.lenTake hk) (dK.ones _) (by omega) (fun _=>rfl) (fun r=>?_)
      |refine aO (v:=RV x) 0 ((i)*9) _ rfl rfl rfl rfl iT (dK.sub hx 0 9 (by decide)) rfl (by decide) rfl ?_
      |refine(Bl 0 []) (IP) (fun g0=>?_)
      |refine ai 0 ((i)*9) pW iT rfl rfl rfl rfl rfl (by omega) (by omega) (dK.ne (by decide) (by omega)) (by show 0+Int.toNat _*9=_;omega) ?_
      |refine fK (s:=9) (len:=0) 2 1 (ah iD (o.take k)) (fun r=>[_,_,⟨r.b,38,ah iD (o.take k),r.n,true⟩,_]) pW Cb rfl rfl rfl rfl rfl rfl rfl rfl rfl rfl rfl (Nat.le_refl _) (Nat.le_refl _) (hobs.imp (fun e=>by omega) id) (dK.takeR o k) (dK.lenTake hk) (dK.ones _) (by omega) (fun _=>rfl) (fun r=>?_)
      |refine(Bl 9 [(0,_)]) (Ew) (fun g0=>?_)
      |refine(Bl 0 []) (IP) (fun g1=>?_)
      |refine fK (s:=9) (len:=0) 3 1 (ah iD (o.take k)) (fun r=>[_,_,_,⟨r.b,38,ah iD (o.take k),r.n,true⟩]) pW Cb rfl rfl rfl rfl rfl rfl rfl rfl rfl rfl rfl (Nat.le_refl _) (Nat.le_refl _) (hobs.imp (fun e=>by omega) id) (dK.takeR o k) (dK.lenTake hk) (dK.ones _) (by omega) (fun _=>rfl) (fun r=>?_)
      |refine fK (s:=9) (len:=0+k) (n2:=1) 3 2 (iD x) (fun r2=>[_,_,_,⟨r2.b,38,ah iD (o.take k)++iD x,r2.n,true⟩]) pW Cb rfl rfl rfl rfl rfl rfl rfl rfl rfl rfl (by rw[dK.lenTake hk,Nat.zero_add]) r.h r.hn (.inr ⟨_,rfl⟩) rfl rfl (dK.one x) (by omega) (fun _=>rfl) (fun r2=>?_)
      |refine(Qo (s:=9) (len:=0+k+1) 3 1 (ah iD (o.drop k)) (fun r3=>[_,_,_,⟨r3.b,38,(ah iD (o.take k)++iD x)++ah iD (o.drop k),r3.n,true⟩]) pW Cb) (by exact(by rw[List.length_append,dK.lenTake hk,dK.len];omega)) r2.h r2.hn (by exact(hobs.imp (fun e=>by omega) id)) (dK.dropT h3 hk) (dK.lenDrop o k) (dK.ones _) (fun r3=>?_)
      |refine Ue (by decide+kernel) ?_
      |refine fQ [10] (by decide+kernel) rfl ⟨⟨_,rfl,?_⟩,trivial⟩
      |refine fQ [14] (by decide+kernel) rfl ⟨⟨_,rfl,?_⟩,trivial⟩
      |refine fQ [15] (by decide+kernel) rfl ⟨⟨_,rfl,?_⟩,trivial⟩
      |refine fQ [9] (by decide+kernel) rfl ⟨⟨_,rfl,?_⟩,trivial⟩
      |refine fQ [4] (by decide+kernel) rfl ⟨⟨_,rfl,?_⟩,trivial⟩
      |refine fQ [8] (by decide+kernel) rfl ⟨⟨_,rfl,?_⟩,trivial⟩
      |refine fQ [4,9] (by decide+kernel) rfl ⟨⟨_,rfl,?_⟩,⟨_,rfl,?_⟩,trivial⟩
      |refine fQ [4,8] (by decide+kernel) rfl ⟨⟨_,rfl,?_⟩,⟨_,rfl,?_⟩,trivial⟩
      |refine fQ [0,7] (by decide+kernel) rfl ⟨⟨_,rfl,?_⟩,⟨_,rfl,?_⟩,trivial⟩
      |refine fQ [4,7] (by decide+kernel) rfl ⟨⟨_,rfl,?_⟩,⟨_,rfl,?_⟩,trivial⟩
      |refine fQ [7] (by decide+kernel) rfl ⟨⟨_,rfl,?_⟩,trivial⟩
      |refine fQ [0,8] (by decide+kernel) rfl ⟨⟨_,rfl,?_⟩,⟨_,rfl,?_⟩,trivial⟩
      |refine fQ [0,9] (by decide+kernel) rfl ⟨⟨_,rfl,?_⟩,⟨_,rfl,?_⟩,trivial⟩
      |refine fQ [0] (by decide+kernel) rfl ⟨⟨_,rfl,?_⟩,trivial⟩
    rintro⟨⟨rb,rn,rc,gx⟩,rh,rhn⟩;show At _ ⟨62,[(0,az lb 0 l.length lc),(3,az rb 0 (0+k+1+(o.length-k)) rc),(4,bz i)],[⟨lb,38,ah iD l,lN,false⟩,⟨ob,38,ah iD o,oN,true⟩,⟨rb,38,(ah iD (o.take k)++iD x)++ah iD (o.drop k),rn,true⟩,⟨some gx,38,iD x,9,true⟩]⟩ _;refine A4 ?_;refine Ar (((i+1:Nat):Int)) ?_;refine A3 ?_;exact Nl ⟨⟨i+1,o.take k++x::o.drop k,rb,rn,rc⟩,hlt,by show _=fG (l.take (i+1));rw[KI hx,<-hI,hins],by have:=rh;simp at this ⊢;omega,rhn⟩ (hμ:=(by show l.length-(i+1)<l.length-i;omega)) (ht:=⟨rfl,(aB rfl (by show az rb 0 (0+k+1+(o.length-k)) rc=az rb 0 (o.take k++x::o.drop k).length rc;congr 1;simp;omega)),rfl,trivial⟩) (hL:=(au [some 0,some 2] ⟨pR,⟨_,rfl,aI (by rw[kC,ig,List.append_assoc])⟩,trivial⟩ rfl rfl))
 ·have hge:i=l.length:=(by have:=of_decide_eq_false hb1;omega);subst hge;obtain rfl:o=fG l:=by rw[hI,List.take_length]
  refine lX ?_;refine aH rfl (aj rfl) (fun w hL=>⟨⟨ob,oN,oc,h3⟩,?_,hL.pk [some 1]⟩);exact rfl
def CW(l:List Iv)(lb:Option Nat)(lN lc:Nat)(hlc:l.length<=lc)(hln:l.length<=1000)(hsz:∀x∈l,jV x<=50000)(t:Rl)(ht:gY t<=50000:=by omega):dh Tryz.prog 97 [⟨lb,61,ah bP l,lN,false⟩] [az lb 0 l.length lc,RV t] Unit (fun _=> .bool (l.any (fun i=>D7 i t))) (fun _=>[]):=by
 refine⟨by kernel_rfl,fun w hL0=>?_⟩;refine YZ 18 Tryz.func97 hL0 ?_;refine A2 ?_;refine Bo [_,_,_,_,_,_,_,_,_] 9 (fun g=>[_,⟨some g,38,_,9,true⟩]) (fun g0=>?_);refine lm ?_;refine El (ι:={i:Nat // i<=l.length∧l.any (fun i=>D7 i t)=(l.drop i).any (fun i=>D7 i t)}) (fun⟨i,hi,hI⟩=>([(0,az lb 0 l.length lc),(5,.int .i64 (i:Nat)),(3,.pointer (some ⟨g0,0,none⟩))],[⟨lb,61,ah bP l,lN,false⟩,⟨some g0,38,iD t,9,true⟩],l.length-i)) ⟨0,Nat.zero_le _,rfl⟩ ?_;rintro⟨i,hi,hI⟩;(try dsimp only);refine A9 ?_;refine yC rfl (fun hb1=>?_) (fun hb1=>?_)
 ·
  have hlt:i<l.length:=(by have:=of_decide_eq_true hb1;omega)
  obtain⟨x,hx⟩:∃x,l[i]? =some x:=⟨l[i],List.getElem?_eq_getElem hlt⟩
  have hxs:=hsz x (List.mem_of_getElem? hx);refine fD 0 rfl (bI.ne (by decide) (by omega)) (fun hbs=>?_);obtain⟨gl,hgl⟩:=Option.isSome_iff_exists.1 hbs;replace hgl:lb=some gl:=hgl;subst hgl;refine A5 ?_;refine FV [] mixed (by kernel_rfl) (by kernel_rfl) ?_;refine A2 ?_;refine ai 0 ((i)*20) F6 iC rfl rfl rfl rfl rfl (by omega) (by omega) (bI.ne (by decide) (by omega)) (by show 0+Int.toNat _*20=_;omega) ?_;refine aO (v:=kF x) 0 ((i)*20) _ rfl rfl rfl rfl iC (bI.sub hx 0 20 (by decide)) rfl (by decide) rfl ?_;refine aO 1 0 [_,_,_,_,_,_,_,_,_] rfl rfl rfl rfl iT rfl rfl rfl rfl ?_;refine Pc (Vb x t hxs ht) ?_;refine A2 ?_;refine yC rfl (fun hb2=>?_) (fun hb2=>?_)
  ·
   have hyes:D7 x t=true:=hb2;refine oO ?_;refine aH rfl (aj rfl) (fun w hL=>⟨(),?_,hL.pk []⟩);rw[hI,nM hx,hyes];rfl
  ·
   have hno:D7 x t=false:=hb2;refine A5 ?_;refine Ar (((i+1:Nat):Int)) ?_;refine A3 ?_;exact Nl ⟨i+1,hlt,by rw[hI,nM hx];simp only[hno,Bool.false_or]⟩ (hL:=eG.auto)
 ·
  have hge:i=l.length:=(by have:=of_decide_eq_false hb1;omega)
  subst hge;refine oO ?_;refine aH rfl (aj rfl) (fun w hL=>⟨(),?_,hL.pk []⟩);rw[hI,List.drop_length];rfl
def CX(l:List Iv)(lb:Option Nat)(lN lc:Nat)(hlc:l.length<=lc)(hln:l.length<=1000)(hsz:∀x∈l,jV x<=50000)(a c:Rl)(ha:gY a<=50000:=by omega)(hc:gY c<=50000:=by omega):dh Tryz.prog 98 [⟨lb,61,ah bP l,lN,false⟩] [az lb 0 l.length lc,RV a,RV c] Unit (fun _=> .bool (l.any (fun i=>decide (bW i.f a<=0)&&decide (bW c i.t<=0)))) (fun _=>[]):=by
 refine⟨by kernel_rfl,fun w hL0=>?_⟩;refine ZI 32 Tryz.func98 hL0 ?_;refine A2 ?_;refine Bo [_,_,_,_,_,_,_,_,_] 9 (fun g=>[_,⟨some g,38,_,9,true⟩]) (fun g0=>?_);refine Bo [_,_,_,_,_,_,_,_,_] 9 (fun g=>[_,_,⟨some g,38,_,9,true⟩]) (fun g1=>?_);refine lm ?_;refine El (ι:={i:Nat // i<=l.length∧l.any (fun i=>decide (bW i.f a<=0)&&decide (bW c i.t<=0))=(l.drop i).any (fun i=>decide (bW i.f a<=0)&&decide (bW c i.t<=0))}) (fun⟨i,hi,hI⟩=>([(0,az lb 0 l.length lc),(7,.int .i64 (i:Nat)),(4,.pointer (some ⟨g0,0,none⟩)),(5,.pointer (some ⟨g1,0,none⟩))],[⟨lb,61,ah bP l,lN,false⟩,⟨some g0,38,iD a,9,true⟩,⟨some g1,38,iD c,9,true⟩],l.length-i)) ⟨0,Nat.zero_le _,rfl⟩ ?_;rintro⟨i,hi,hI⟩;(try dsimp only);refine A9 ?_;refine yC rfl (fun hb1=>?_) (fun hb1=>?_)
 ·
  have hlt:i<l.length:=(by have:=of_decide_eq_true hb1;omega)
  obtain⟨x,hx⟩:∃x,l[i]? =some x:=⟨l[i],List.getElem?_eq_getElem hlt⟩
  have hxs:=hsz x (List.mem_of_getElem? hx);refine fD 0 rfl (bI.ne (by decide) (by omega)) (fun hbs=>?_);obtain⟨gl,hgl⟩:=Option.isSome_iff_exists.1 hbs;replace hgl:lb=some gl:=hgl;subst hgl;refine A5 ?_;refine FV [] mixed (by kernel_rfl) (by kernel_rfl) ?_;refine A2 ?_;refine ai 0 ((i)*20) F6 iC rfl rfl rfl rfl rfl (by omega) (by omega) (bI.ne (by decide) (by omega)) (by show 0+Int.toNat _*20=_;omega) ?_;refine yF ((i)*20) 0 rfl rfl rfl iC rfl rfl ?_;refine aO (v:=RV x.f) 0 ((i)*20+0) _ rfl rfl rfl rfl iT (bI.sub hx 0 9 (by decide)) rfl (by decide) rfl ?_;refine aO 1 0 [_,_,_,_,_,_,_,_,_] rfl rfl rfl rfl iT rfl rfl rfl rfl ?_;refine Pc (gQ x.f a (Nat.le_trans (kw x) hxs) ha) ?_;refine A2 ?_;refine Eh 22 rfl (fun hb2=>?_) (fun hb2=>?_)
  ·
   have hs22:bW x.f a<=0:=of_decide_eq_true hb2;refine aO 2 0 [_,_,_,_,_,_,_,_,_] rfl rfl rfl rfl iT rfl rfl rfl rfl ?_;refine A2 ?_;refine ai 0 ((i)*20) F6 iC rfl rfl rfl rfl rfl (by omega) (by omega) (bI.ne (by decide) (by omega)) (by show 0+Int.toNat _*20=_;omega) ?_;refine yF ((i)*20) 9 rfl rfl rfl iC rfl rfl ?_;refine aO (v:=RV x.t) 0 ((i)*20+9) _ rfl rfl rfl rfl iT (bI.sub hx 9 9 (by decide)) rfl (by decide) rfl ?_;refine Pc (gQ c x.t hc (Nat.le_trans (kz x) hxs)) ?_;refine A4 ?_;refine yC rfl (fun hb3=>?_) (fun hb3=>?_)
   ·
    have hs30:bW c x.t<=0:=of_decide_eq_true hb3
    have hyes:(decide (bW x.f a<=0)&&decide (bW c x.t<=0))=true:=by rw[decide_eq_true hs22,decide_eq_true hs30];rfl
    refine oO ?_;refine aH rfl (aj rfl) (fun w hL=>⟨(),?_,hL.pk []⟩);rw[hI,nM hx,hyes];rfl
   ·
    have hs30:¬bW c x.t<=0:=of_decide_eq_false hb3
    have hno:(decide (bW x.f a<=0)&&decide (bW c x.t<=0))=false:=by rw[decide_eq_false hs30,Bool.and_false]
    refine A5 ?_;refine Ar (((i+1:Nat):Int)) ?_;refine A3 ?_;exact Nl ⟨i+1,hlt,by rw[hI,nM hx];simp only[hno,Bool.false_or]⟩ (hL:=eG.auto)
  ·
   have hs22:¬bW x.f a<=0:=of_decide_eq_false hb2
   have hno:(decide (bW x.f a<=0)&&decide (bW c x.t<=0))=false:=by rw[decide_eq_false hs22];rfl
   refine MW ?_;refine Ar (((i+1:Nat):Int)) ?_;refine A3 ?_;exact Nl ⟨i+1,hlt,by rw[hI,nM hx];simp only[hno,Bool.false_or]⟩ (hL:=eG.auto)
 ·
  have hge:i=l.length:=(by have:=of_decide_eq_false hb1;omega)
  subst hge;refine oO ?_;refine aH rfl (aj rfl) (fun w hL=>⟨(),?_,hL.pk []⟩);rw[hI,List.drop_length];rfl
def AO(op:Int)(a b:Bool):aP Tryz.prog 96 #[.int .i64 op,.bool a,.bool b] (.bool (vH op a b)):=by
 refine⟨by kernel_rfl,fun w=>?_⟩;refine ZI 25 Tryz.func96 (bf.nil w) ?_;refine A18 ?_;refine yC rfl (fun hb0=>?_) (fun hb0=>?_)
 ·
  refine A4 ?_;refine Eh 11 rfl (fun hb1=>?_) (fun hb1=>?_)
  ·
   refine A8 ?_;refine aH rfl (aj rfl) (fun w hL=>⟨?_,hL.below⟩);exact congrArg (fun b=>Ending.returned (.bool b)) (by unfold vH;first|(simp_all;done)|(revert hb0;cases a<;>cases b<;>simp_all))
  ·
   refine A8 ?_;refine aH rfl (aj rfl) (fun w hL=>⟨?_,hL.below⟩);exact congrArg (fun b=>Ending.returned (.bool b)) (by unfold vH;first|(simp_all;done)|(revert hb0;cases a<;>cases b<;>simp_all))
 ·
  refine A6 ?_;refine yC rfl (fun hb1=>?_) (fun hb1=>?_)
  ·
   refine A4 ?_;refine Eh 17 rfl (fun hb2=>?_) (fun hb2=>?_)
   ·
    refine A8 ?_;refine aH rfl (aj rfl) (fun w hL=>⟨?_,hL.below⟩);exact congrArg (fun b=>Ending.returned (.bool b)) (by unfold vH;first|(simp_all;done)|(revert hb0;cases a<;>cases b<;>simp_all))
   ·
    refine A8 ?_;refine aH rfl (aj rfl) (fun w hL=>⟨?_,hL.below⟩);exact congrArg (fun b=>Ending.returned (.bool b)) (by unfold vH;first|(simp_all;done)|(revert hb0;cases a<;>cases b<;>simp_all))
  ·
   refine A7 ?_;refine Eh 21 rfl (fun hb2=>?_) (fun hb2=>?_)
   ·
    refine A7 ?_;refine aH rfl (aj rfl) (fun w hL=>⟨?_,hL.below⟩);exact congrArg (fun b=>Ending.returned (.bool b)) (by unfold vH;first|(simp_all;done)|(revert hb0;cases a<;>cases b<;>simp_all))
   ·
    refine A7 ?_;refine aH rfl (aj rfl) (fun w hL=>⟨?_,hL.below⟩);exact congrArg (fun b=>Ending.returned (.bool b)) (by unfold vH;first|(simp_all;done)|(revert hb0;cases a<;>cases b<;>simp_all))
def P8(l:List Iv)(lb:Option Nat)(lN lc:Nat)(hlc:l.length<=lc)(hln:l.length<=2000)(hsz:∀x∈l,jV x<=50000):dh Tryz.prog 95 [⟨lb,61,ah bP l,lN,false⟩] [az lb 0 l.length lc] (SR (fG (bV l)).length) SR.v (fun z=>[⟨z.b,38,ah iD (fG (bV l)),z.n,true⟩]):=by
 refine Md 26 Tryz.func95 fun w hL0=>?_;refine MW ?_;refine El (ι:={z:Nat×List Rl×Option Nat×Nat×Nat // z.1<=l.length∧z.2.1=bV (l.take z.1)∧z.2.1.length<=z.2.2.2.2∧z.2.2.2.2*9<=z.2.2.2.1}) (fun⟨⟨i,o,ob,oN,oc⟩,hi,hI,h3,h4⟩=>([(0,az lb 0 l.length lc),(3,az ob 0 o.length oc),(4,bz i)],[⟨lb,61,ah bP l,lN,false⟩,⟨ob,38,ah iD o,oN,true⟩],l.length-i)) ⟨⟨0,[],none,0,0⟩,Nat.zero_le _,rfl,Nat.le_refl _,by simp⟩ ?_ (hL:=(au [some 0,none] ⟨pR,⟨rfl,rfl,rfl⟩,trivial⟩ rfl rfl));rintro⟨⟨i,o,ob,oN,oc⟩,hi,hI,h3,h4⟩;(try dsimp only);replace hi:i<=l.length:=hi;replace hI:o=bV (l.take i):=hI;replace h3:o.length<=oc:=h3;replace h4:oc*9<=oN:=h4
 have hol:o.length<=100000:=(by rw[hI,vI,List.length_take];omega);refine A9 ?_;refine Cd ?_ ?_<;>intro hb1
 ·have hlt:i<l.length:=(by have:=of_decide_eq_true hb1;omega);obtain⟨x,hx⟩:∃x,l[i]? =some x:=⟨l[i],List.getElem?_eq_getElem hlt⟩;refine fD 0 rfl (bI.ne (by decide) (by omega)) (fun hbs=>?_);obtain⟨gl,hgl⟩:=Option.isSome_iff_exists.1 hbs;replace hgl:lb=some gl:=hgl;subst hgl;refine A4 ?_;refine qP (l':=[⟨_,_,_,_,_,_⟩,⟨_,_,_,_,_,_⟩,⟨_,_,_,_,_,_⟩,⟨_,_,_,_,_,_⟩,⟨_,_,_,_,_,_⟩,⟨_,_,_,_,_,_⟩,⟨_,_,_,_,_,_⟩,⟨_,_,_,_,_,_⟩,⟨_,_,_,_,_,_⟩,⟨_,_,_,_,_,_⟩]) [2000000] [1,2,3,4,5,6,7,8,9,10] [0,11,12,13] mixed (by kernel_rfl) rfl ?_;refine A2 ?_;refine ai 0 ((i)*20) F6 iC rfl rfl rfl rfl rfl (by omega) (by omega) (bI.ne (by decide) (by omega)) (by show 0+Int.toNat _*20=_;omega) ?_;refine Fg ((i)*20) 0 ?_;refine aO (v:=RV x.f) 0 ((i)*20+0) _ rfl rfl rfl rfl iT (bI.sub hx 0 9 (by decide)) rfl (by decide) rfl ?_;refine A2 ?_;refine ai 0 ((i)*20) F6 iC rfl rfl rfl rfl rfl (by omega) (by omega) (bI.ne (by decide) (by omega)) (by show 0+Int.toNat _*20=_;omega) ?_;refine Fg ((i)*20) 9 ?_;refine aO (v:=RV x.t) 0 ((i)*20+9) _ rfl rfl rfl rfl iT (bI.sub hx 9 9 (by decide)) rfl (by decide) rfl ?_;refine A1 ?_;refine aJ [0,11] (by kernel_rfl) ⟨⟨_,rfl,?_⟩,⟨_,rfl,?_⟩,trivial⟩
  ·refine A2 ?_;refine aJ [11] (by kernel_rfl) ⟨⟨_,rfl,?_⟩,trivial⟩
   ·refine(Bl 18 [(0,_),(1,_)]) (VV) (fun g0=>?_);refine A1 ?_;refine aJ [12] (by kernel_rfl) ⟨⟨_,rfl,?_⟩,trivial⟩
    ·refine(Qa (s:=9) (len:=o.length) (n2:=2) 1 2 (fun r=>[_,⟨some r.g,38,ah iD o++(iD x.f++iD x.t),r.n,true⟩,_]) pW Cb) (dK.length o) h3 h4 (fun v hv=>List.all_eq_true.1 (show(iD x.f++iD x.t).all (·.oneCell')=true from rfl) v hv) (fun r=>?_);refine A1 ?_;refine aJ [13] (by kernel_rfl) ⟨⟨_,rfl,?_⟩,trivial⟩
     ·refine A2 ?_;refine jU rfl ?_;refine A4 ?_;refine Ar (((i+1:Nat):Int)) ?_;refine A3 ?_;exact Nl ⟨⟨i+1,o++[x.f,x.t],some r.g,r.n,r.cap⟩,hlt,by show o++[x.f,x.t]=bV (l.take (i+1));rw[<-dD hx,sK,<-hI];rfl,by rw[List.length_append];exact r.h,r.hn⟩ (hμ:=(by show l.length-(i+1)<l.length-i;omega)) (ht:=⟨rfl,(aB rfl (by rw[List.length_append];rfl)),rfl,trivial⟩) (hL:=(au [some 0,some 1] ⟨pR,⟨_,rfl,aI (by rw[kC];rfl)⟩,trivial⟩ rfl rfl))
  ·refine(Bl 18 [(0,_),(1,_)]) (VV) (fun g0=>?_);refine A1 ?_;refine aJ [0] (by kernel_rfl) ⟨⟨_,rfl,?_⟩,trivial⟩
   ·refine A2 ?_;refine aJ [12] (by kernel_rfl) ⟨⟨_,rfl,?_⟩,trivial⟩
    ·refine(Qa (s:=9) (len:=o.length) (n2:=2) 1 2 (fun r=>[_,⟨some r.g,38,ah iD o++(iD x.f++iD x.t),r.n,true⟩,_]) pW Cb) (dK.length o) h3 h4 (fun v hv=>List.all_eq_true.1 (show(iD x.f++iD x.t).all (·.oneCell')=true from rfl) v hv) (fun r=>?_);refine A1 ?_;refine aJ [13] (by kernel_rfl) ⟨⟨_,rfl,?_⟩,trivial⟩
     ·refine A2 ?_;refine jU rfl ?_;refine A4 ?_;refine Ar (((i+1:Nat):Int)) ?_;refine A3 ?_;exact Nl ⟨⟨i+1,o++[x.f,x.t],some r.g,r.n,r.cap⟩,hlt,by show o++[x.f,x.t]=bV (l.take (i+1));rw[<-dD hx,sK,<-hI];rfl,by rw[List.length_append];exact r.h,r.hn⟩ (hμ:=(by show l.length-(i+1)<l.length-i;omega)) (ht:=⟨rfl,(aB rfl (by rw[List.length_append];rfl)),rfl,trivial⟩) (hL:=(au [some 0,some 1] ⟨pR,⟨_,rfl,aI (by rw[kC];rfl)⟩,trivial⟩ rfl rfl))
 ·have hge:i=l.length:=(by have:=of_decide_eq_false hb1;omega);subst hge;obtain rfl:o=bV l:=by rw[hI,List.take_length]
  refine A8 ?_;refine(Sc [1]) (KN (bV l) ob oN oc h3 (by rw[vI];omega) (WV hsz)) (fun z=>?_);refine A4 ?_;refine aH rfl (aj rfl) (fun w hL=>⟨z,?_,hL.pk [some 2]⟩);exact rfl
end Go.Proofs.YtaffcpfhedadhaaGreatDoor
