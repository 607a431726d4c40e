/-
  Part 17 (chapter 32): lemmas, walks. Each theorem states its own conditions.
-/
import Derived.Sort.Grow
import Derived.Sort.EncStr
import Derived.Lib.SliceRun
import Derived.Test.YtaffcpfhedadhaaGreatDoorA00
import Derived.Test.YtaffcpfhedadhaaGreatDoorA06
import Derived.Test.YtaffcpfhedadhaaGreatDoorA13
import Derived.Test.YtaffcpfhedadhaaGreatDoorA14
set_option linter.all false
set_option maxRecDepth 20000
set_option maxHeartbeats 20000000
section
variable{P Q:Prop}{T:Type}{R:T->Prop}
def qhH(h:P:=by rw[e1,Array.getElem?_append_left qfd,Array.getElem?_modify,if_neg (fun e=>hne e.symm)]):=h
def qhI(h:P:=by
 rw[e1,Array.getElem?_append_left qbc,Array.getElem?_modify,if_pos rfl,hcur]
 rfl):=h
def Rh(h:P:=by subst hnt;exact h):=h
def ED(h:P:=by rw[Nat.eq_of_beq_eq_true hlen];rfl):=h
def qW(h:P:=by rw[ha];rfl):=h
def qqp(h:P:=by rcases List.mem_cons.1 hb with h|h;rw[h];rw[List.mem_singleton.1 h]):=h
def J5(h:P:=by rw[Nat.eq_of_beq_eq_true hn];decide):=h
end
namespace Go.Via
variable[Mo]
open Go Go.RowKit
def Zo(l:List Oper):(List.range l.length).map (fun i=>l.toArray.getD i default)=l:=by
 apply List.ext_getElem
 ·simp
 ·intro i h1 h2;simp at h1;simp[h1]
def Ri{P:Program}{B:Bs}{s:St}{Q:Exit->Act->World->Prop}{id:Nat}{l:List Oper}(bl:List Nat)(hm:P.follows .mixedOrders=true)(hc:xB bl l.toArray (List.range l.length)=true)(hf:MQ bl l.toArray s=true)
 (h:aU P bl l.toArray l s (fun s'=>At B s' (Q .normal))):At B s ((Code.region id l.toArray true).wp P Q):=MS bl _ hm hc (Zo l) hf h
def LdG(P:Program)(L:List aF)(T g off:Nat)(k:Value->Prop):Prop:=∃(j:Nat) (b:aF) (i:TI) (u v:Value),L[j]? =some b∧b.base=some g∧dH P T i=true∧(b.cs.drop off).take i.size=[u]∧i.size=1∧(bif i.agg then some (Value.agg #[u]) else some u)=some v∧k v
section
variable{P:Program}{bl:List Nat}{ops:Array Oper}{K:St->Prop}{rest:List Oper}{nt:Nat}{t:List (Nat×Value)}{L:List aF}{d:Nat}{ty:TypeId}{pos:String}{af:Array Edge}{g:Option (Nat×Bool)}{x y:Operand}
def qxP{T gg off:Nat}(hd:Nat.blt d nt=true)(hg:az ops ⟨some d,.load T x,ty,pos,af,g⟩ t=some true)(hx:ev t x=some (.pointer (some ⟨gg,off,none⟩)))(h:LdG P (blank bl L) T gg off (fun v=>aU P bl ops rest ⟨nt,(d,v)::t,L⟩ K)):
 aU P bl ops (⟨some d,.load T x,ty,pos,af,g⟩::rest) ⟨nt,t,L⟩ K:=by
 obtain⟨j,b,i,u,v,h1,h2,h3,h4,h5,h6,h7⟩:=h;exact aT j off [u] hd hg h1 (by rw[hx];unfold aF.at;rw[h2];rfl) h3 h4 h5.symm (by rw[h5];rfl) h6 h7
def KP{T gg off:Nat}{k:Value->Prop}{b:aF}{i:TI}{u v:Value}(j:Nat)(h1:L[j]? =some b)(h2:b.base=some gg)(h3:dH P T i=true)(h4:(b.cs.drop off).take i.size=[u])(h5:i.size=1)(h6:(bif i.agg then some (Value.agg #[u]) else some u)=some v)(h7:k v):LdG P L T gg off k:=
 ⟨j,b,i,u,v,h1,h2,h3,h4,h5,h6,h7⟩
def fA{T:Nat}{j gg off fo fs:Nat}{i:TI}(hd:Nat.blt d nt=true)(hg:az ops ⟨some d,.fieldAddr T x j,ty,pos,af,g⟩ t=some true)(hx:ev t x=some (.pointer (some ⟨gg,off,none⟩)))(hi:dH P T i=true)
 (hf:i.flds[j]? =some (fo,fs+1)){off':Nat}(ho:off+fo=off')(h:aU P bl ops rest ⟨nt,(d,.pointer (some ⟨gg,off',none⟩))::t,L⟩ K):
 aU P bl ops (⟨some d,.fieldAddr T x j,ty,pos,af,g⟩::rest) ⟨nt,t,L⟩ K:=by
 subst ho;refine eY hd hg rfl (v:= .pointer (some ⟨gg,off+fo,none⟩)) (fun B a w hr=>?_) h;have h2:=hr.ev (x:=x) (v:= .pointer (some ⟨gg,off,none⟩)) hx;obtain⟨fs',f,h3,h4,h5,h6⟩:=qfy hi hf;simp only at h5 h6;have hsz:(sizeOf f.type).run P w= .ok (fs+1) w:=by
  cases hq:P.info? f.type with
  |none=>rw[hq] at h6;simp at h6
  |some inf=>rw[hq] at h6;simp at h6;simp[sizeOf,typeInfo,hq,h6]
 simp[execOp,h2,Instr.fieldAt,run_underlying h3,h4,Instr.sureAddr,fieldPlace,hsz,iI,h5]
end
def A1{P Q:Prop}(q:Q)(h:Q->P:=by
 intro q
 first
  |with_reducible exact Tc q
  |with_reducible exact quP q
  |with_reducible exact Yk q
  |with_reducible exact qdo q
  |with_reducible exact qrM q
  |with_reducible exact qmR q
  |with_reducible exact qfE q
  |with_reducible exact qmS q
  |with_reducible exact quW q
  |with_reducible exact quQ q
  |with_reducible exact quR q
  |with_reducible exact quU q
  |with_reducible exact quV q
  |(with_reducible refine qfD ?_ q);rfl
  |(with_reducible refine qfC ?_ q);rfl
  |exact qrY rfl rfl rfl q
  |exact Nh rfl rfl rfl q
  |exact qxu rfl rfl rfl q
  |exact qfQ rfl rfl rfl rfl rfl q
  |exact qm3 rfl rfl rfl rfl q
  |exact qm2 rfl rfl rfl rfl q
  |exact Yu rfl rfl rfl q
  |exact quZ rfl rfl rfl q
  |exact qfR rfl rfl rfl rfl q
  |exact qfS rfl rfl rfl rfl q
  |(refine qxP rfl rfl rfl ?_;first|exact KP 0 rfl rfl (xm _) rfl rfl rfl q|exact KP 1 rfl rfl (xm _) rfl rfl rfl q|exact KP 2 rfl rfl (xm _) rfl rfl rfl q|exact KP 3 rfl rfl (xm _) rfl rfl rfl q|exact KP 4 rfl rfl (xm _) rfl rfl rfl q|exact KP 5 rfl rfl (xm _) rfl rfl rfl q|exact KP 6 rfl rfl (xm _) rfl rfl rfl q|exact KP 7 rfl rfl (xm _) rfl rfl rfl q|exact KP 8 rfl rfl (xm _) rfl rfl rfl q|exact KP 9 rfl rfl (xm _) rfl rfl rfl q|exact KP 10 rfl rfl (xm _) rfl rfl rfl q|exact KP 11 rfl rfl (xm _) rfl rfl rfl q)
  |exact fA rfl rfl rfl (xm _) rfl rfl q
  |exact YP rfl rfl rfl q
  |exact IU (vs:=[_,_]) rfl rfl rfl rfl q
  |exact IU (vs:=[_,_,_]) rfl rfl rfl rfl q
  |exact IU (vs:=[_,_,_,_]) rfl rfl rfl rfl q
  |exact qr0 (uA _) rfl rfl rfl q
  |exact qsn (uA _) rfl rfl rfl q
  |exact qu0 rfl (uT _) rfl rfl q):P:=h q
def A2{P Q:Prop}(q:Q)(h:Q->P:=by intro q;refine A1 ?_;exact A1 q):P:=h q
def A3{P Q:Prop}(q:Q)(h:Q->P:=by intro q;refine A1 ?_;exact A2 q):P:=h q
def A4{P Q:Prop}(q:Q)(h:Q->P:=by intro q;refine A2 ?_;exact A2 q):P:=h q
def A5{P Q:Prop}(q:Q)(h:Q->P:=by intro q;refine A2 ?_;exact A3 q):P:=h q
def A6{P Q:Prop}(q:Q)(h:Q->P:=by intro q;refine A3 ?_;exact A3 q):P:=h q
def A7{P Q:Prop}(q:Q)(h:Q->P:=by intro q;refine A3 ?_;exact A4 q):P:=h q
def A8{P Q:Prop}(q:Q)(h:Q->P:=by intro q;refine A4 ?_;exact A4 q):P:=h q
def A9{P Q:Prop}(q:Q)(h:Q->P:=by intro q;refine A4 ?_;exact A5 q):P:=h q
def lh{P Q:Prop}(q:Q)(h:Q->P:=by intro q;refine A5 ?_;exact A5 q):P:=h q
def qX{P Q:Prop}(q:Q)(h:Q->P:=by intro q;refine A5 ?_;exact A6 q):P:=h q
def oH{P Q:Prop}(q:Q)(h:Q->P:=by intro q;refine A6 ?_;exact A6 q):P:=h q
def EE{P Q:Prop}(q:Q)(h:Q->P:=by intro q;refine A6 ?_;exact A7 q):P:=h q
def FH{P Q:Prop}(q:Q)(h:Q->P:=by intro q;refine A7 ?_;exact A7 q):P:=h q
def II{P Q:Prop}(q:Q)(h:Q->P:=by intro q;refine A7 ?_;exact A8 q):P:=h q
def Yc{P Q:Prop}(q:Q)(h:Q->P:=by intro q;refine A8 ?_;exact A8 q):P:=h q
def PX{P Q:Prop}(q:Q)(h:Q->P:=by intro q;refine A8 ?_;exact A9 q):P:=h q
def A18{P Q:Prop}(q:Q)(h:Q->P:=by intro q;refine A9 ?_;exact A9 q):P:=h q
def A19{P Q:Prop}(q:Q)(h:Q->P:=by intro q;refine A9 ?_;exact lh q):P:=h q
def A20{P Q:Prop}(q:Q)(h:Q->P:=by intro q;refine lh ?_;exact lh q):P:=h q
def A21{P Q:Prop}(q:Q)(h:Q->P:=by intro q;refine lh ?_;exact qX q):P:=h q
def A22{P Q:Prop}(q:Q)(h:Q->P:=by intro q;refine qX ?_;exact qX q):P:=h q
def A23{P Q:Prop}(q:Q)(h:Q->P:=by intro q;refine qX ?_;exact oH q):P:=h q
def A24{P Q:Prop}(q:Q)(h:Q->P:=by intro q;refine oH ?_;exact oH q):P:=h q
def A25{P Q:Prop}(q:Q)(h:Q->P:=by intro q;refine oH ?_;exact EE q):P:=h q
def A26{P Q:Prop}(q:Q)(h:Q->P:=by intro q;refine EE ?_;exact EE q):P:=h q
def A29{P Q:Prop}(q:Q)(h:Q->P:=by intro q;refine FH ?_;exact II q):P:=h q
def A30{P Q:Prop}(q:Q)(h:Q->P:=by intro q;refine II ?_;exact II q):P:=h q
section
variable{P:Program}{bl:List Nat}{ops:Array Oper}{K:St->Prop}{rest:List Oper}{nt:Nat}{t:List (Nat×Value)}{L:List aF}{d:Nat}{ty:TypeId}{pos:String}{af:Array Edge}{g:Option (Nat×Bool)}{x y:Operand}
def Ar{op:BinOp}{T U:Nat}{k:IntKind}{m n:Int}(r:Int)(h:aU P bl ops rest ⟨nt,(d,.int k r)::t,L⟩ K)(hd:Nat.blt d nt=true:=by rfl)(hg:az ops ⟨some d,.binOp op T x y U,ty,pos,af,g⟩ t=some true:=by rfl)(hx:ev t x=some (.int k m):=by rfl)(hy:ev t y=some (.int k n):=by rfl)
 (hr:(match op with| .add=>some (k.wrap (m+n))| .sub=>some (k.wrap (m-n))| .mul=>some (k.wrap (m*n))|_=>none)=some r:=by first|exact congrArg some (wi ae ae ae)|exact congrArg some (c64 _ rfl ae)):
 aU P bl ops (⟨some d,.binOp op T x y U,ty,pos,af,g⟩::rest) ⟨nt,t,L⟩ K:=qbs hd hg hx hy hr h
def Ix{T e:Nat}{k:IntKind}{i:Int}{b:aF}{off len cap:Nat}{inf:TI}(kk off':Nat)(h:aU P bl ops rest ⟨nt,(d,b.at off')::t,L⟩ K)(hT:P.underlying T=some (.slice e):=by exact uA _)(hinf:dH P e inf=true:=by exact xm _)(hd:Nat.blt d nt=true:=by rfl)(hg:az ops ⟨some d,.indexAddr T x y,ty,pos,af,g⟩ t=some true:=by rfl)
 (hk:(blank bl L)[kk]? =some b:=by rfl)(hx:ev t x=some (aB b.base off len cap):=by rfl)(hy:ev t y=some (.int k i):=by rfl)(h0:0<=i:=by omega)(h1:i<len:=by omega)
 (hb:b.cs≠[]:=by first|exact List.cons_ne_nil _ _|exact GK qV|exact GK ae|exact tabC_ne au|exact SB_ne ae|exact frmC_ne au|exact(fun e=>by have h8:=hR.1;have h9:=congrArg List.length e;rw[Rk] at h9;simp only[List.length_nil] at h9;first|omega|(rw[List.length_set] at h9;omega))|exact(fun e=>by have h9:=congrArg List.length e;rw[Rk] at h9;simp only[List.length_nil] at h9;first|omega|(rw[List.length_set] at h9;omega)))
 (ho:off+i.toNat*inf.size=off':=by first|(show 0+Int.toNat _*1=_;omega)|(show 0+Int.toNat _*3=_;omega)|(show 0+Int.toNat _*4=_;omega)|(show 0+Int.toNat _*2=_;omega)|(show 0+Int.toNat _*7=_;omega)):aU P bl ops (⟨some d,.indexAddr T x y,ty,pos,af,g⟩::rest) ⟨nt,t,L⟩ K:=
 aJ kk off' hT hinf hd hg hk hx hy h0 h1 hb ho h
def Gm{f:Nat}{args:List Operand}{ts:Array TypeId}{dst:Option Nat}{vs:List Value}{AC:List aF}{X:Type}{res:X->Value}{L1:X->List aF}(n:Nat)(ks is:List Nat)(mk:X->List aF)(hc:Ey P f AC vs X res L1)
 (h:∀x,aU P bl ops rest (({nt:=nt,t:=t,L:=mk x}:St).put dst (res x)) K)
 (hM:LC bl=true:=by rfl)(hd:(match(generalizing:=false) dst with|some d=>Nat.blt d nt|none=>true)=true:=by rfl)
 (hg:az ops ⟨dst,.call {callee:= .value (.func f),args:=args.toArray,argTypes:=ts},ty,pos,af,g⟩ t=some true:=by rfl)
 (hv:args.map (ev t)=vs.map some:=by rfl)(hn:ks.Nodup:=by decide)(hk:ks.map (fun k=>L[k]?)=(AC.take n).map some:=by rfl)(hA:((AC.take n).all fun b=>b.own&&(Nat.blt b.e cO||b.base.isSome))=true:=by rfl)
 (hp:jf L (is.map some) (AC.drop n):=by repeat (first|exact trivial|refine⟨⟨_,rfl,aF.le_refl _⟩,?_⟩))
 (hC:((AC.drop n).all fun b=> !b.own)=true:=by rfl)(hap:lL ((ks++is).map some) (AC.map (·.own))=true:=by rfl)
 (hlen:∀x,Nat.ble ks.length (L1 x).length=true:=by exact(fun _=>rfl))(hown:∀x,∀b∈L1 x,b.own=true∨∃a∈AC.take n,a.base=b.base∧b.base.isSome=true:=by exact(fun _=>TE rfl))(hL:∀x,setG L ks (L1 x)=mk x:=by exact(fun _=>rfl)):
 aU P bl ops (⟨dst,.call {callee:= .value (.func f),args:=args.toArray,argTypes:=ts},ty,pos,af,g⟩::rest) ⟨nt,t,L⟩ K:=
 qgA vs (A:=AC.take n) (C:=AC.drop n) ks is mk hM hd hg hv (by rw[List.take_append_drop];exact hc) hn hk hA hp hC (by rw[List.take_append_drop];exact hap) hlen hown hL h
def Pc{f:Nat}{args:List Operand}{ts:Array TypeId}{vs:List Value}{v:Value}(hc:aG P f vs.toArray v)(h:aU P bl ops rest ⟨nt,(d,v)::t,L⟩ K)(hd:Nat.blt d nt=true:=by rfl)(hg:az ops ⟨some d,.call {callee:= .value (.func f),args:=args.toArray,argTypes:=ts},ty,pos,af,g⟩ t=some true:=by rfl)
 (hv:args.map (ev t)=vs.map some:=by rfl):
 aU P bl ops (⟨some d,.call {callee:= .value (.func f),args:=args.toArray,argTypes:=ts},ty,pos,af,g⟩::rest) ⟨nt,t,L⟩ K:=fJ vs hd hg hv hc h
def So{T:Nat}{i:TI}{gg e n:Nat}{cs:List Value}{v:Value}(k off:Nat)(L':List aF)(cs':List Value)(h:aU P bl ops rest ⟨nt,t,L'⟩ K)(hbl:IE bl=false:=by rfl)(hg:az ops ⟨none,.store T x y,ty,pos,af,g⟩ t=some true:=by rfl)(hk:L[k]? =some ⟨some gg,e,cs,n,true⟩:=by rfl)(hx:ev t x=some (.pointer (some ⟨gg,off,none⟩)):=by rfl)
 (hy:ev t y=some v:=by rfl)(hi:dH P T i=true:=by exact xm _)(hsz:v.cells.size=i.size:=by rfl)(hfit:Nat.ble (off+i.size) cs.length=true:=by rfl)(h1:(v.cells.toList.all fun u=>u.oneCell')=true:=by rfl)(hcs:cs.take off++v.cells.toList++cs.drop (off+i.size)=cs':=by rfl)(hL:L.set k ⟨some gg,e,cs',n,true⟩=L':=by rfl)
 (hpos:Nat.blt 0 i.size=true:=by rfl):aU P bl ops (⟨none,.store T x y,ty,pos,af,g⟩::rest) ⟨nt,t,L⟩ K:=jB hbl k off L' cs' hg hk hx hy hi hsz hfit h1 hcs hL h hpos
def Bo{T:Nat}{v:Value}(cs:List Value)(n:Nat)(mk:Nat->List aF)(h:∀b,aU P bl ops rest ⟨nt,(d,.pointer (some ⟨b,0,none⟩))::t,mk b⟩ K)(hd:Nat.blt d nt=true:=by rfl)(hg:az ops ⟨some d,.box T x,ty,pos,af,g⟩ t=some true:=by rfl)(hx:ev t x=some v:=by rfl)(hcs:v.cells.toList=cs:=by rfl)(hn:v.cells.size=n:=by rfl)
 (hL:∀b,L++[⟨some b,T,cs,n,true⟩]=mk b:=by exact(fun _=>rfl))(hT:Nat.blt T cO=true:=by rfl):aU P bl ops (⟨some d,.box T x,ty,pos,af,g⟩::rest) ⟨nt,t,L⟩ K:=qpZ cs n mk hd hg hx hcs hn hL h hT
def Rj{n:Nat}{listed:Array Bool}{s:St}{K:St->Prop}{o:Oper}(i:Nat)(h:aU P [1000000] ops [o] s (fun s'=>zC P ops K n (listed.setIfInBounds i true) s'))(h1:Region.ready .any ops listed=[i]:=by kernel_rfl)(ho:ops[i]? =some o:=by rfl):zC P ops K (n+1) listed s:=
 iZ [i] h1 rfl ⟨⟨_,ho,h⟩,trivial⟩
def Tn2{n:Nat}{listed:Array Bool}{s:St}{K:St->Prop}{o o':Oper}(i j:Nat)(h:aU P [1000000] ops [o] s (fun s'=>zC P ops K n (listed.setIfInBounds i true) s'))(h':aU P [1000000] ops [o'] s (fun s'=>zC P ops K n (listed.setIfInBounds j true) s'))
 (h1:Region.ready .any ops listed=[i,j]:=by kernel_rfl)(ho:ops[i]? =some o:=by rfl)(ho':ops[j]? =some o':=by rfl):zC P ops K (n+1) listed s:=
 iZ [i,j] h1 rfl ⟨⟨_,ho,h⟩,⟨_,ho',h'⟩,trivial⟩
def Tn3{n:Nat}{listed:Array Bool}{s:St}{K:St->Prop}{o o' u:Oper}(i j k:Nat)(h:aU P [1000000] ops [o] s (fun s'=>zC P ops K n (listed.setIfInBounds i true) s'))(h':aU P [1000000] ops [o'] s (fun s'=>zC P ops K n (listed.setIfInBounds j true) s'))(hu:aU P [1000000] ops [u] s (fun s'=>zC P ops K n (listed.setIfInBounds k true) s'))
 (h1:Region.ready .any ops listed=[i,j,k]:=by kernel_rfl)(ho:ops[i]? =some o:=by rfl)(ho':ops[j]? =some o':=by rfl)(ho2:ops[k]? =some u:=by rfl):zC P ops K (n+1) listed s:=
 iZ [i,j,k] h1 rfl ⟨⟨_,ho,h⟩,⟨_,ho',h'⟩,⟨_,ho2,hu⟩,trivial⟩
end
section
variable{P:Program}{B:Bs}{Q:Exit->Act->World->Prop}{nt:Nat}{t:List (Nat×Value)}{L:List aF}{ι:Type}{c:Code}
abbrev SL:=List (Nat×Value)×List aF×Nat
def xK{L L':List aF}(ks:List (Option Nat))(hp:jf L ks L':=by repeat (first|exact trivial|refine⟨⟨_,rfl,aF.le_refl _⟩,?_⟩))(hl:ks.length=L'.length:=by rfl)(ha:lL ks (L'.map (·.own))=true:=by rfl):fE L L':=ay ks hp hl ha
def aX.pk{B:Bs}{w:World}{L L':List aF}(h:aX B L w)(ks:List (Option Nat))(hp:jf L ks L':=by repeat (first|exact trivial|refine⟨⟨_,rfl,aF.le_refl _⟩,?_⟩))(hl:ks.length=L'.length:=by rfl)(ha:lL ks (L'.map (·.own))=true:=by rfl):aX B L' w:=h.picks ks hp hl ha
def fE.auto{L L':List aF}(h:fE L L':=by
 first
  |exact ay [some 0] ⟨⟨_,rfl,aF.le_refl _⟩,trivial⟩ rfl rfl
  |exact ay [some 0,some 1] ⟨⟨_,rfl,aF.le_refl _⟩,⟨_,rfl,aF.le_refl _⟩,trivial⟩ rfl rfl
  |exact ay [some 0,some 1,some 2] ⟨⟨_,rfl,aF.le_refl _⟩,⟨_,rfl,aF.le_refl _⟩,⟨_,rfl,aF.le_refl _⟩,trivial⟩ rfl rfl
  |exact ay [some 0,some 1,some 2,some 3] ⟨⟨_,rfl,aF.le_refl _⟩,⟨_,rfl,aF.le_refl _⟩,⟨_,rfl,aF.le_refl _⟩,⟨_,rfl,aF.le_refl _⟩,trivial⟩ rfl rfl
  |exact ay [some 0,some 1,some 2,some 3,some 4] ⟨⟨_,rfl,aF.le_refl _⟩,⟨_,rfl,aF.le_refl _⟩,⟨_,rfl,aF.le_refl _⟩,⟨_,rfl,aF.le_refl _⟩,⟨_,rfl,aF.le_refl _⟩,trivial⟩ rfl rfl
  |exact ay [some 0,some 1,some 2,some 3,some 4,some 5] ⟨⟨_,rfl,aF.le_refl _⟩,⟨_,rfl,aF.le_refl _⟩,⟨_,rfl,aF.le_refl _⟩,⟨_,rfl,aF.le_refl _⟩,⟨_,rfl,aF.le_refl _⟩,⟨_,rfl,aF.le_refl _⟩,trivial⟩ rfl rfl
  |exact ay [some 0,some 1,some 2,some 3,some 4,some 5,some 6] ⟨⟨_,rfl,aF.le_refl _⟩,⟨_,rfl,aF.le_refl _⟩,⟨_,rfl,aF.le_refl _⟩,⟨_,rfl,aF.le_refl _⟩,⟨_,rfl,aF.le_refl _⟩,⟨_,rfl,aF.le_refl _⟩,⟨_,rfl,aF.le_refl _⟩,trivial⟩ rfl rfl
  |exact ay [some 0,some 1,some 2,some 3,some 4,some 5,some 6,some 7] ⟨⟨_,rfl,aF.le_refl _⟩,⟨_,rfl,aF.le_refl _⟩,⟨_,rfl,aF.le_refl _⟩,⟨_,rfl,aF.le_refl _⟩,⟨_,rfl,aF.le_refl _⟩,⟨_,rfl,aF.le_refl _⟩,⟨_,rfl,aF.le_refl _⟩,⟨_,rfl,aF.le_refl _⟩,trivial⟩ rfl rfl
  |exact ay [some 0,some 1,some 2,some 3,some 4,some 5,some 6,some 7,some 8] ⟨⟨_,rfl,aF.le_refl _⟩,⟨_,rfl,aF.le_refl _⟩,⟨_,rfl,aF.le_refl _⟩,⟨_,rfl,aF.le_refl _⟩,⟨_,rfl,aF.le_refl _⟩,⟨_,rfl,aF.le_refl _⟩,⟨_,rfl,aF.le_refl _⟩,⟨_,rfl,aF.le_refl _⟩,⟨_,rfl,aF.le_refl _⟩,trivial⟩ rfl rfl):fE L L':=h
def El(S:ι->SL)(i₀:ι)(round:∀i,At B ⟨nt,(S i).1,(S i).2.1⟩ (c.wp P (Exit.then (Nxt B nt (fun i=>(S i).1) (fun i=>(S i).2.1) (fun i=>(S i).2.2) i) Q)))
 (ht:jL t (S i₀).1:=by repeat (first|exact trivial|refine⟨rfl,?_⟩))(hL:fE L (S i₀).2.1:=by exact fE.refl _):At B ⟨nt,t,L⟩ ((Code.loop c).wp P Q):=qr2 _ _ _ i₀ ht hL round
def Nl{T:ι->List (Nat×Value)}{LL:ι->List aF}{μ:ι->Nat}{i:ι}(j:ι)(hμ:μ j<μ i:=by first|(simp only[];omega)|(dsimp only;omega))
 (ht:jL t (T j):=by repeat (first|exact trivial|refine⟨rfl,?_⟩))(hL:fE L (LL j):=by exact fE.refl _):At B ⟨nt,t,L⟩ (Nxt B nt T LL μ i):=qu2 j hμ ht hL
end
section
variable{P:Program}{f:Nat}{fn:Func}{c:Code}{B:Bs}{w:World}{R:Ending->World->Prop}{L:List aF}
def cB0(nt:Nat)(hf:P.funcs[f]? =some fn)(hL:aX B L w)(h:At B ⟨nt,[],L⟩ (c.wp P (bodyPost P fn R)))(hb:fn.body=some c:=by rfl)(hnt:fn.ntmps=nt:=by rfl)(hn:Nat.ble 0 fn.ntmps=true:=by rfl)(hD:B.D=[]:=by first|rfl|assumption):Calls P f #[] w R:=
 vk (args:=[]) hf hb (Nat.le_of_ble_eq_true hn) hL Rh hD
def cB1{v0:Value}(nt:Nat)(hf:P.funcs[f]? =some fn)(hL:aX B L w)(h:At B ⟨nt,[(0,v0)],L⟩ (c.wp P (bodyPost P fn R)))(hb:fn.body=some c:=by rfl)(hnt:fn.ntmps=nt:=by rfl)(hn:Nat.ble 1 fn.ntmps=true:=by rfl)(hD:B.D=[]:=by first|rfl|assumption):Calls P f #[v0] w R:=
 vk (args:=[v0]) hf hb (Nat.le_of_ble_eq_true hn) hL Rh hD
def cB2{v0 v1:Value}(nt:Nat)(hf:P.funcs[f]? =some fn)(hL:aX B L w)(h:At B ⟨nt,[(0,v0),(1,v1)],L⟩ (c.wp P (bodyPost P fn R)))(hb:fn.body=some c:=by rfl)(hnt:fn.ntmps=nt:=by rfl)(hn:Nat.ble 2 fn.ntmps=true:=by rfl)(hD:B.D=[]:=by first|rfl|assumption):Calls P f #[v0,v1] w R:=
 vk (args:=[v0,v1]) hf hb (Nat.le_of_ble_eq_true hn) hL Rh hD
def cB3{v0 v1 v2:Value}(nt:Nat)(hf:P.funcs[f]? =some fn)(hL:aX B L w)(h:At B ⟨nt,[(0,v0),(1,v1),(2,v2)],L⟩ (c.wp P (bodyPost P fn R)))(hb:fn.body=some c:=by rfl)(hnt:fn.ntmps=nt:=by rfl)(hn:Nat.ble 3 fn.ntmps=true:=by rfl)(hD:B.D=[]:=by first|rfl|assumption):Calls P f #[v0,v1,v2] w R:=
 vk (args:=[v0,v1,v2]) hf hb (Nat.le_of_ble_eq_true hn) hL Rh hD
def cB4{v0 v1 v2 v3:Value}(nt:Nat)(hf:P.funcs[f]? =some fn)(hL:aX B L w)(h:At B ⟨nt,[(0,v0),(1,v1),(2,v2),(3,v3)],L⟩ (c.wp P (bodyPost P fn R)))(hb:fn.body=some c:=by rfl)(hnt:fn.ntmps=nt:=by rfl)(hn:Nat.ble 4 fn.ntmps=true:=by rfl)(hD:B.D=[]:=by first|rfl|assumption):Calls P f #[v0,v1,v2,v3] w R:=
 vk (args:=[v0,v1,v2,v3]) hf hb (Nat.le_of_ble_eq_true hn) hL Rh hD
def cB5{v0 v1 v2 v3 v4:Value}(nt:Nat)(hf:P.funcs[f]? =some fn)(hL:aX B L w)(h:At B ⟨nt,[(0,v0),(1,v1),(2,v2),(3,v3),(4,v4)],L⟩ (c.wp P (bodyPost P fn R)))(hb:fn.body=some c:=by rfl)(hnt:fn.ntmps=nt:=by rfl)(hn:Nat.ble 5 fn.ntmps=true:=by rfl)(hD:B.D=[]:=by first|rfl|assumption):Calls P f #[v0,v1,v2,v3,v4] w R:=
 vk (args:=[v0,v1,v2,v3,v4]) hf hb (Nat.le_of_ble_eq_true hn) hL Rh hD
end
end Go.Via
namespace Go.Via
variable[Mo]
open Go Go.RowKit
section
variable{P:Program}{bl:List Nat}{ops:Array Oper}{nt:Nat}{t:List (Nat×Value)}{L:List aF}{B:Bs}{rest:List Oper}{K:St->Prop}{ty:TypeId}{pos:String}{af:Array Edge}{g:Option (Nat×Bool)}{d:Nat}
def Cd{s:St}{Q:Exit->Act->World->Prop}{c:Operand}{x y:Code}{b:Bool}(h1:b=true->At B s (x.wp P Q))(h2:b=false->At B s (y.wp P Q))(hc:ev s.t c=some (.bool b):=by rfl):At B s ((Code.cond c x y).wp P Q):=jA hc h1 h2
def Rs{X:Act->World->Prop}{l:List Oper}{b:Bool}(d:Nat)(hT:b=true->aU P bl ops l ⟨nt,(d,.bool true)::t,L⟩ (fun s'=>At B s' X))(hF:b=false->aU P bl ops l ⟨nt,(d,.bool false)::t,L⟩ (fun s'=>At B s' X))
 (hx:look t d=some (.bool b):=by rfl):aU P bl ops l ⟨nt,t,L⟩ (fun s'=>At B s' X):=Gz d hx hT hF
def Ld{T:Nat}{x:Operand}{i:TI}{b:aF}{v:Value}(k off:Nat)(vs:List Value)(hi:dH P T i=true)(h:aU P bl ops rest ⟨nt,(d,v)::t,L⟩ K)
 (hd:Nat.blt d nt=true:=by rfl)(hg:az ops ⟨some d,.load T x,ty,pos,af,g⟩ t=some true:=by rfl)(hk:(blank bl L)[k]? =some b:=by rfl)(hx:ev t x=some (b.at off):=by rfl)
 (hvs:(b.cs.drop off).take i.size=vs:=by rfl)(hlen:vs.length=i.size:=by rfl)(hpos:Nat.blt 0 i.size=true:=by rfl)(hv:(bif i.agg then some (.agg vs.toArray) else vs[0]?)=some v:=by rfl):
 aU P bl ops (⟨some d,.load T x,ty,pos,af,g⟩::rest) ⟨nt,t,L⟩ K:=aT k off vs hd hg hk hx hi hvs hlen hpos hv h
def Kr{X:Act->World->Prop}{l:List Oper}{v:Value}(d:Nat)(v':Value)(h:aU P bl ops l ⟨nt,(d,v')::t,L⟩ (fun s'=>At B s' X))(hx:look t d=some v:=by rfl)(hv:v=v':=by rfl):aU P bl ops l ⟨nt,t,L⟩ (fun s'=>At B s' X):=aP d v' hx hv h
def E1{fn:Func}{R:Ending->World->Prop}{s:St}{d:Nat}{v:Value}(hR:∀w,aX B s.L w->R (.returned v) w)(hfn:fn.results= #[.tmp d]:=by rfl)(h:look s.t d=some v:=by rfl)(hD:B.D=[]:=by first|rfl|assumption):At B s (bodyPost P fn R .ret):=
 aH hfn (ax h) hR hD
def eB{a b:Bool}(h:a=b):Ending.returned (.bool a)=Ending.returned (.bool b):=by rw[h]
end
end Go.Via
namespace Go.Via
variable[Mo]
open Go Go.RowKit
def qhK(P:Program)(f:Nat)(L0:List aF)(args:List Value)(X:Type)(res:X->Value)(L1:X->List aF):Prop:=
 iP P f=true∧∀(B:Bs) (w:World),B.D=[]->aX B L0 w->CallsD P f args.toArray .returning w fun e u' w'=>u'= .returning∧∃x,e= .returned (res x)∧aX B (L1 x) w'
theorem qhK.at{P:Program}{f:Nat}{L A C:List aF}{args:List Value}{X:Type}{res:X->Value}{L1:X->List aF}(hc:qhK P f (A++C) args X res L1)(ks is:List Nat)(hn:ks.Nodup)(hk:ks.map (fun k=>L[k]?)=A.map some)
 (hA:(A.all fun b=>b.own&&(Nat.blt b.e cO||b.base.isSome))=true)(hp:jf L (is.map some) C)(hC:(C.all fun b=> !b.own)=true)(hap:lL ((ks++is).map some) ((A++C).map (·.own))=true)(hlen:∀x,Nat.ble ks.length (L1 x).length=true)(hown:∀x,∀b∈L1 x,b.own=true∨∃a∈A,a.base=b.base∧b.base.isSome=true)
 {B:Bs}{w:World}(h:aX B L w):CallsD P f args.toArray .returning w fun e u' w'=>u'= .returning∧∃x,e= .returned (res x)∧aX B (setG L ks (L1 x)) w':=by
 obtain⟨B',hD,h2,hb⟩:=NL ks is hn hk hA hp hC hap h;refine(hc.2 B' w hD h2).mono ?_;rintro e u' w' ⟨hu,x,rfl,hx⟩;exact⟨hu,x,rfl,hb _ _ (hlen x) (hown x) hx⟩
end Go.Via
namespace Go.Via
open Go Go.RowKit
inductive WP where
 |q (r:Rat)
 |raw (b1:Bool) (s1:ByteArray) (b2:Bool) (s2:ByteArray)
def WP.cells:WP->List Value
 | .q r=>[.bool (decide (r.num<0)),.string (bH r.num.natAbs),.bool false,.string (dm r)]
 | .raw b1 s1 b2 s2=>[.bool b1,.string s1,.bool b2,.string s2]
inductive XT where
 |mk (op:Int) (name:List UInt8) (num:WP) (args:List XT)
def XT.op:XT->Int| .mk o _ _ _=>o
def XT.name:XT->List UInt8| .mk _ n _ _=>n
def XT.num:XT->WP| .mk _ _ n _=>n
def XT.args:XT->List XT| .mk _ _ _ l=>l
def Zp(op:Int)(name:List UInt8)(num:WP)(a:Option Addr)(n cap:Nat):List Value:= .int .i64 op:: .string (lm name)::num.cells++[.slice a n cap]
mutual
inductive Oh(T:P5):XT->List Value->Prop
 |mk {op:Int} {name:List UInt8} {num:WP} {args:List XT} {a:Option Addr} {cap:Nat} (h:KQ T args a) (hc:args.length<=cap):
  Oh T (.mk op name num args) (Zp op name num a args.length cap)
inductive KQ(T:P5):List XT->Option Addr->Prop
 |nil {a:Option Addr}:KQ T [] a
 |cons {x:XT} {l:List XT} {g off:Nat} {cs c:List Value} (hm:(g,cs)∈T) (hc:(cs.drop off).take 7=c) (hx:Oh T x c) (hl:KQ T l (some ⟨g,off+7,none⟩)):KQ T (x::l) (some ⟨g,off,none⟩)
end
mutual
def Oh.mono{T U:P5}(hs:∀p∈T,p∈U):∀{x:XT} {c:List Value},Oh T x c->Oh U x c
 |_,_,.mk h hc=> .mk (KQ.mono hs h) hc
def KQ.mono{T U:P5}(hs:∀p∈T,p∈U):∀{l:List XT} {a:Option Addr},KQ T l a->KQ U l a
 |_,_,.nil=> .nil
 |_,_,.cons hm hc hx hl=> .cons (hs _ hm) hc (Oh.mono hs hx) (KQ.mono hs hl)
end
def Qc{op:Int}{name:List UInt8}{num:WP}{a:Option Addr}{n cap:Nat}:(Zp op name num a n cap).length=7:=by cases num<;>rfl
def Qe{op:Int}{name:List UInt8}{num:WP}{a:Option Addr}{n cap:Nat}:(Zp op name num a n cap).all Value.simpleT=true:=by cases num<;>rfl
theorem Oh.length{T:P5}{x:XT}{c:List Value}(h:Oh T x c):c.length=7:=by cases h;exact Qc
theorem Oh.simple{T:P5}{x:XT}{c:List Value}(h:Oh T x c):c.all Value.simpleT=true:=by cases h;exact Qe
theorem KQ.get{T:P5}:∀{l:List XT} {a:Option Addr} {i:Nat} {x:XT},KQ T l a->l[i]? =some x->∃g off cs c,a=some ⟨g,off,none⟩∧(g,cs)∈T∧(cs.drop (off+i*7)).take 7=c∧Oh T x c
 |[],_,i,x,_,hx=>by simp at hx
 |y::l,_,0,x,.cons hm hc hy hl,hx=>by
  simp at hx;subst hx;exact⟨_,_,_,_,rfl,hm,by rw[Nat.zero_mul,Nat.add_zero];exact hc,hy⟩
 |y::l,_,i+1,x,.cons hm hc hy hl,hx=>by
  rw[List.getElem?_cons_succ] at hx;obtain⟨g,off,cs,c,h1,h2,h3,h4⟩:=KQ.get hl hx;simp only[Option.some.injEq,Addr.mk.injEq,and_true] at h1;obtain⟨rfl,rfl⟩:=h1;exact⟨_,_,cs,c,rfl,h2,by rw[<-h3,Nat.succ_mul];congr 2;omega,h4⟩
mutual
def XT.size:XT->Nat
 | .mk _ _ _ l=>1+XT.sizes l
def XT.sizes:List XT->Nat
 |[]=>0
 |x::l=>XT.size x+XT.sizes l
end
abbrev Gg:=List UInt8
def qqs(c:UInt8):Bool:=(decide (65<=c.toNat)&&decide (c.toNat<=90))||(decide (97<=c.toNat)&&decide (c.toNat<=122))
def isDig(c:UInt8):Bool:=decide (48<=c.toNat)&&decide (c.toNat<=57)
def wch(c:UInt8):Bool:=qqs c||isDig c||c==95
def zch(c:UInt8):Bool:=decide (32<=c.toNat)&&decide (c.toNat<=126)
def qvy(l:Gg):Bool:=l.all zch&&decide (1<=l.length)&&decide (l.length<=40)
def qxR:Gg:=[60,61,43,45,124,92,42,38,40,41,91,93,44]
def spL:Gg:=[32,9,10]
def qxS:List (Gg×Nat×Nat):=[([111,114],24,1),([97,110,100],23,2),([110,111,116],25,3),([60],21,4),([61],22,4),([43],18,5),([45],19,5),([124],7,5),([92],9,5),([42],20,6),([38],8,6),([100,117,114,105,110,103],12,7)]
def qxT:List (Gg×Nat×Nat):=[
 ([119,104,101,110],10,1),([100,101,102,105,110,101,100],11,1),([100,105,115,116,97,110,99,101,50],13,2),([115,112,101,101,100,50],14,1),([119,105,116,104,105,110],15,3),([105,110,115,105,100,101],16,2),([97,114,101,97,50],17,1),
 ([115,111,109,101,116,105,109,101],26,1),([97,108,119,97,121,115],27,1),([108,97,115,116,105,110,103],28,2),([115,104,105,102,116],29,2),([108,101,97,115,116],30,2)]
def qvz:List Gg:=[[118,97,108,117,101],[111,98,106,101,99,116,115],[119,104,101,114,101],[112,97,105,114,115],[112,111,105,110,116],[111,98,106,101,99,116],[122,111,110,101]]
def resL:List Gg:=qvz++qxS.map (·.1)++qxT.map (·.1)
structure Ps where
 s:Gg
 pos:Nat
 k:Nat
 at_:Nat
 tx:Gg
 bat:Nat
 be:Nat
 fail:Bool
def Ps.ok(p:Ps):Prop:=p.s.length<=4096∧p.pos<=p.s.length
def Ps.tok(p:Ps)(a k n:Nat):Ps:={p with pos:=a+n,k:=k,at_:=a,tx:=(p.s.drop a).take n}
def dgs(l:Gg):Nat:=(l.takeWhile isDig).length
def qs6(l:Gg):Nat:=
 match l.drop (dgs l) with
 |47::c::r=>if isDig c then dgs l+1+dgs (c::r) else dgs l
 |_=>dgs l
def quo:Gg->Option (Gg×Nat)
 |[]=>none
 |[c]=>if c=34 then some ([],0) else none
 |c::d::l=>if c=34 then(if d=34 then(quo l).map fun x=>(34::x.1,x.2+2) else some ([],0)) else(quo (d::l)).map fun x=>(c::x.1,x.2+1)
def Ps.quoted(p:Ps)(a:Nat):Ps:=
 match quo (p.s.drop (a+1)) with
 |some (n,k)=>if qvy n then {p with pos:=a+k+2,k:=3,at_:=a,tx:=n} else {p with k:=5,at_:=a,tx:=[]}
 |none=>{p with k:=5,at_:=a,tx:=[]}
def Ps.skip(p:Ps):Nat:=p.pos+((p.s.drop p.pos).takeWhile spL.contains).length
def Ps.adv(p:Ps):Ps:=
 match p.s.drop p.skip with
 |[]=>{p with pos:=p.skip,k:=0,at_:=p.skip,tx:=[]}
 |c::r=>
  if qqs c then p.tok p.skip 1 ((c::r).takeWhile wch).length
  else if isDig c then p.tok p.skip 2 (qs6 (c::r))
  else if c=34 then({p with pos:=p.skip}).quoted p.skip
  else if qxR.contains c then p.tok p.skip 4 1
  else p.tok p.skip 5 0
def Ps.stop(p:Ps)(e:Nat):Ps:=if p.fail then p else {p with bat:=p.at_,be:=e,fail:=true}
def Ps.is(p:Ps)(x:Gg):Bool:= !p.fail&&(p.k==1||p.k==4)&&p.tx==x
def Ps.want(p:Ps)(x:Gg):Ps:=if p.is x then p.adv else p.stop 15
def Ps.name(p:Ps):Ps:=if p.fail||p.k !=1||resL.contains p.tx then p.stop 15 else if 40<p.tx.length then p.stop 34 else p.adv
def qoC(l:Gg):Nat:=l.foldl (fun n c=>n*10+(c.toNat-48)) 0
def qs7(t:Gg):Option Rat:=
 let a:=t.takeWhile isDig
 match t.drop a.length with
 |[]=>some (qoC a:Rat)
 |_::b=>if qoC b=0 then none else some (Rat.divInt (qoC a) (qoC b))
def qxU(q:Rat):Bool:=decide (q.den=1)&&decide (1<=q.num)&&decide (q.num<=1073741824)
def XT.numd(op:Nat)(q:Rat):XT:= .mk op [] (.q q) []
def Ps.number(p:Ps)(object:Bool):Rat×Ps:=
 if p.fail||p.k !=2 then(0,p.stop 15) else
 match qs7 p.tx with
 |none=>(0,p.stop 6)
 |some q=>if object&& !qxU q then(0,p.stop 27) else(q,p.adv)
def qs8:Gg:=[45]
def Ps.signed(p:Ps):XT×Ps:=
 if p.is qs8 then(.numd 1 (-(p.adv.number false).1),(p.adv.number false).2) else(.numd 1 (p.number false).1,(p.number false).2)
end Go.Via
namespace Go.Via
open Go
def Ps.cells(p:Ps):List Value:=[.string (lm p.s),.int .i64 (p.pos:Nat),.int .i64 (p.k:Nat),.int .i64 (p.at_:Nat),.string (lm p.tx),.int .i64 (p.bat:Nat),.int .i64 (p.be:Nat),.bool p.fail]
end Go.Via
namespace Go.Via
variable[Mo]
open Go Go.RowKit
def NB(l:Gg):List Value:=l.map fun b=> .int .u8 (b.toNat:Nat)
theorem Rk(l:Gg):(NB l).length=l.length:=by simp[NB]
section
variable{P:Program}{bl:List Nat}{ops:Array Oper}{K:St->Prop}{rest:List Oper}{nt:Nat}{t:List (Nat×Value)}{L:List aF}{d:Nat}{ty:TypeId}{pos:String}{af:Array Edge}{g:Option (Nat×Bool)}{x y:Operand}
end
end Go.Via
namespace Go.Via
variable[Mo]
open Go Go.RowKit
abbrev Bs.put(B:Bs)(f:Nat)(vs:List Value):Bs:=⟨B.w,B.S,{target:= .fn (.func f) #[],args:=vs.toArray}::B.D⟩
structure Bd where
 b:Option Nat
 n:Nat
 cap:Nat
 s:Gg
def Bd.ok(d:Bd):Prop:=d.s.length<=d.cap∧d.cap<=d.n∧(d.b=none↔d.cap=0)
abbrev OB(m:Nat):={r:OR m 1 // r.b=none↔r.cap=0}
def OB.bd{m:Nat}(r:OB m)(s:Gg):Bd:=⟨r.1.b,r.1.n,r.1.cap,s⟩
def OB.ok{m:Nat}(r:OB m){s:Gg}(h:s.length=m):(r.bd s).ok:=⟨by show s.length<=r.1.cap;rw[h];exact r.1.h,by have:=r.1.hn;show r.1.cap<=r.1.n;omega,r.2⟩
theorem Bd.pos{d:Bd}(h:d.ok):d.b≠none->d.n≠0:=fun hb=>by
 have h1:=h.2.1;have h2:d.cap≠0:=fun e=>hb (h.2.2.2 e)
 omega
end Go.Via
namespace Go.Via
variable[Mo]
open Go Go.RowKit
theorem WQ(a b:Gg):lm a++lm b=lm (a++b):=by
 apply ByteArray.ext
 simp[lm,ByteArray.data_append]
section
variable{P:Program}{bl:List Nat}{ops:Array Oper}{K:St->Prop}{rest:List Oper}{nt:Nat}{t:List (Nat×Value)}{L:List aF}{d:Nat}{ty:TypeId}{pos:String}{af:Array Edge}{g:Option (Nat×Bool)}{x y z:Operand}
def Zq{T U:Nat}{a b:ByteArray}{p q r:Gg}(hd:Nat.blt d nt=true)(hg:az ops ⟨some d,.binOp .add T x y U,ty,pos,af,g⟩ t=some true)(hx:ev t x=some (.string a))(hy:ev t y=some (.string b))(ha:a=lm p)(hb:b=lm q)(hr:p++q=r)(hlen:p.length+q.length<=17179869184)
 (h:aU P bl ops rest ⟨nt,(d,.string (lm r))::t,L⟩ K):aU P bl ops (⟨some d,.binOp .add T x y U,ty,pos,af,g⟩::rest) ⟨nt,t,L⟩ K:=by
 subst ha;subst hb;subst hr;exact eY hd hg rfl (fun B a w hrel=>by
 have h1:=hrel.ev hx;have h2:=hrel.ev hy;have h3:=run_string_add_sum (P:=P) w (lm p) (lm q) (by rw[yR,yR];omega);rw[WQ] at h3;simp[execOp,h1,h2,eqGuard,binOp,h3]) h
end
end Go.Via
namespace Go.Via
variable[Mo]
open Go Go.RowKit
section
variable{P:Program}{bl:List Nat}{ops:Array Oper}{K:St->Prop}{rest:List Oper}{nt:Nat}{t:List (Nat×Value)}{L:List aF}{d:Nat}{ty:TypeId}{pos:String}{af:Array Edge}{g:Option (Nat×Bool)}{x y:Operand}
def Jb{f:Nat}{args:List Operand}{ts:Array TypeId}{dst:Option Nat}(vs caps:List Value){A C:List aF}{X:Type}{res:X->Value}{L1:X->List aF}(ks is:List Nat)(mk:X->List aF)(hM:LC bl=true)(hd:(match dst with|some d=>Nat.blt d nt|none=>true)=true)
 (hg:az ops ⟨dst,.call {callee:= .value x,args:=args.toArray,argTypes:=ts},ty,pos,af,g⟩ t=some true)(hf:ev t x=some (.func (.func f) #[] caps.toArray))
 (hv:args.map (ev t)=vs.map some)(hc:Ey P f (A++C) (vs++caps) X res L1)(hn:ks.Nodup)(hk:ks.map (fun k=>L[k]?)=A.map some)(hA:(A.all fun b=>b.own&&(Nat.blt b.e cO||b.base.isSome))=true)(hp:jf L (is.map some) C)(hC:(C.all fun b=> !b.own)=true)(hap:lL ((ks++is).map some) ((A++C).map (·.own))=true)
 (hlen:∀x,Nat.ble ks.length (L1 x).length=true)(hown:∀x,∀b∈L1 x,b.own=true∨∃a∈A,a.base=b.base∧b.base.isSome=true)(hL:∀x,setG L ks (L1 x)=mk x)
 (h:∀x,aU P bl ops rest (({nt:=nt,t:=t,L:=mk x}:St).put dst (res x)) K):
 aU P bl ops (⟨dst,.call {callee:= .value x,args:=args.toArray,argTypes:=ts},ty,pos,af,g⟩::rest) ⟨nt,t,L⟩ K:=
 qfF hd hg hM (X:=X) (nx:=fun x=>({nt:=nt,t:=t,L:=mk x}:St).put dst (res x)) (fun hd' B a w hr=>by
 have h1:(execOp a.eval ⟨dst,.call {callee:= .value x,args:=args.toArray,argTypes:=ts},ty,pos,af,g⟩).run P w= .ok (.enter f (vs++caps).toArray) w:=by
  have hfv:=hr.ev hf;have hva:args.toArray.map a.eval=vs.toArray:=Gv;have hp:=hc.1;unfold iP at hp;cases hq:P.funcs[f]? with
  |none=>rw[hq] at hp;cases hp
  |some fn=>
   rw[hq] at hp;simp only[Bool.and_eq_true,Bool.not_eq_true'] at hp;obtain⟨h1,h2⟩:=hp;have h3:fn.body≠none:=qbe
   have h4:¬fn.name= "runtime.NumGoroutine" :=Gu;simp[execOp,resolve,hfv,hva,Deferred.ofValue,invoke,callFunc,hq,h4,h3]
 unfold Oper.wp;rw[h1];refine(hc.at ks is hn hk hA hp hC hap hlen hown hr.mem).mono ?_;rintro e w' ⟨x,rfl,hw⟩;refine⟨x,?_⟩;rw[hL] at hw;exact hr.put hd' hw) h
end
end Go.Via
namespace Go.Via
variable[Mo]
open Go Go.RowKit
section
variable{P:Program}{bl:List Nat}{ops:Array Oper}{K:St->Prop}{rest:List Oper}{nt:Nat}{t:List (Nat×Value)}{L:List aF}{d:Nat}{ty:TypeId}{pos:String}{af:Array Edge}{g:Option (Nat×Bool)}{x y:Operand}
def qi{f:Nat}{args:List Operand}{ts:Array TypeId}(vs:List Value){v:Value}(hd:Nat.blt d nt=true)(hg:az ops ⟨some d,.call {callee:= .value x,args:=args.toArray,argTypes:=ts},ty,pos,af,g⟩ t=some true)
 (hf:ev t x=some (.func (.func f) #[] #[]))(hv:args.map (ev t)=vs.map some)(hc:aG P f vs.toArray v)(h:aU P bl ops rest ⟨nt,(d,v)::t,L⟩ K):
 aU P bl ops (⟨some d,.call {callee:= .value x,args:=args.toArray,argTypes:=ts},ty,pos,af,g⟩::rest) ⟨nt,t,L⟩ K:=
 qgz (caps:=[]) (L0:=[]) vs [] hd hg hf hv ⟨hc.1,fun w hL=>by
 have:=hc.2 w;rw[List.append_nil];exact this.mono (by rintro e w' ⟨rfl,hb⟩;exact⟨(),rfl,⟨.of hb,fun k b hk=>Vq,fun i j g bi bj hij hi=>MJ,mF.nil _ _⟩⟩)⟩ (by exact trivial) rfl h
def WR{T:Nat}{v:Value}(hd:Nat.blt d nt=true)(hg:az ops ⟨some d,.makeInterface T x,ty,pos,af,g⟩ t=some true)(hx:ev t x=some v)(hm:∀w,(Instr.makeInterface T v).run P w= .ok (.iface T v) w)
 (h:aU P bl ops rest ⟨nt,(d,.iface T v)::t,L⟩ K):aU P bl ops (⟨some d,.makeInterface T x,ty,pos,af,g⟩::rest) ⟨nt,t,L⟩ K:=
 eY hd hg rfl (fun B a w hr=>by simp[execOp,hr.ev hx,hm w]) h
def Ud{n:String}{v:Value}(hd:Nat.blt d nt=true)(hg:az ops ⟨some d,.makeFunc (.method n) #[x] #[],ty,pos,af,g⟩ t=some true)(hx:ev t x=some v)(u:Value)(hm:∀w,(Instr.makeFunc (.method n) #[v] #[]).run P w= .ok u w)(h:aU P bl ops rest ⟨nt,(d,u)::t,L⟩ K):
 aU P bl ops (⟨some d,.makeFunc (.method n) #[x] #[],ty,pos,af,g⟩::rest) ⟨nt,t,L⟩ K:=
 eY hd hg rfl (fun B a w hr=>by simp[execOp,hr.ev hx,hm w]) h
def WS{n:String}{T:Nat}{u:Value}(hd:Nat.blt d nt=true)(hg:az ops ⟨some d,.nilCheck x,ty,pos,af,g⟩ t=some true)(hx:ev t x=some (.func (.method n) #[.iface T u] #[]))(hm:∀w,(nilAhead (P.types.size+Made.depth) T u n).run P w= .ok (some false) w)
 (h:aU P bl ops rest ⟨nt,(d,.func (.method n) #[.iface T u] #[])::t,L⟩ K):aU P bl ops (⟨some d,.nilCheck x,ty,pos,af,g⟩::rest) ⟨nt,t,L⟩ K:=
 eY hd hg rfl (fun B a w hr=>by
 have hp0:Sem.run P (Sem.program Sem.pure) w= .ok P w:=rfl;simp[execOp,hr.ev hx,program,hp0,hm w]) h
def LZ{f:Nat}{n:String}{args:List Operand}{ts:Array TypeId}(T:Nat)(u r:Value)(vs:List Value){v:Value}(hd:Nat.blt d nt=true)(hg:az ops ⟨some d,.call {callee:= .invoke x n,args:=args.toArray,argTypes:=ts},ty,pos,af,g⟩ t=some true)
 (hf:ev t x=some (.iface T u))(hm:∀w,(method (P.types.size+Made.depth) T u n).run P w= .ok (f,r) w)(hv:args.map (ev t)=vs.map some)(hc:aG P f (r::vs).toArray v)(h:aU P bl ops rest ⟨nt,(d,v)::t,L⟩ K):
 aU P bl ops (⟨some d,.call {callee:= .invoke x n,args:=args.toArray,argTypes:=ts},ty,pos,af,g⟩::rest) ⟨nt,t,L⟩ K:=
 MV hd hg rfl rfl (X:=Unit) (nx:=fun _=>⟨nt,(d,v)::t,L⟩) (fun hd' B a w hr=>by
 have h1:(execOp a.eval ⟨some d,.call {callee:= .invoke x n,args:=args.toArray,argTypes:=ts},ty,pos,af,g⟩).run P w= .ok (.enter f (r::vs).toArray) w:=by
  have hfv:=hr.ev hf;have hva:args.toArray.map a.eval=vs.toArray:=Gv;have hp:=hc.1;have hmw:=hm w;unfold iP at hp;cases hq:P.funcs[f]? with
  |none=>rw[hq] at hp;cases hp
  |some fn=>
   rw[hq] at hp;simp only[Bool.and_eq_true,Bool.not_eq_true'] at hp;obtain⟨h1,h2⟩:=hp;have h3:fn.body≠none:=qbe
   have h4:¬fn.name= "runtime.NumGoroutine" :=Gu;have hp0:Sem.run P (Sem.program Sem.pure) w= .ok P w:=rfl;simp[execOp,resolve,hfv,hva,invoke,callMethod,program,hp0,hmw,callFunc,hq,h4,h3]
 unfold Oper.wp;rw[h1];refine(hc.2 w).mono ?_;rintro e w' ⟨rfl,hw⟩;exact⟨(),hr.put hd' (hr.mem.same hw)⟩) fun _=>h
end
end Go.Via
namespace Go.Via
variable[Mo]
open Go Go.RowKit
def elW(P:Program)(e:Nat)(s:Nat)(z:Value):Prop:=((P.info? e).map fun inf=>(inf.size,Nat.ble inf.bytes 1024,inf.zero))=some (s,true,some z)∧e<cO
section
variable{P:Program}{bl:List Nat}{ops:Array Oper}{K:St->Prop}{rest:List Oper}{nt:Nat}{t:List (Nat×Value)}{L:List aF}{d:Nat}{ty:TypeId}{pos:String}{af:Array Edge}{g:Option (Nat×Bool)}{x y:Operand}
def qhL{e s:Nat}{z:Value}(h:elW P e s z):∃inf,P.info? e=some inf∧inf.zero=some z∧inf.size=s∧inf.bytes<=1024:=by
 unfold elW at h;replace h:=h.1;cases hq:P.info? e with
 |none=>rw[hq] at h;cases h
 |some inf=>
  rw[hq] at h;simp at h;exact⟨inf,rfl,h.2.2,h.1,h.2.1⟩
def qen{T e s:Nat}{z:Value}{b:aF}{len cap b2o n2 c2:Nat}{b2:aF}(k k2:Nat)(mk:AR (len+n2) s->List aF)(hT:P.underlying T=some (.slice e))(hi:elW P e s z)(hd:Nat.blt d nt=true)
 (hg:az ops ⟨some d,.call {callee:= .builtin .append,args:= #[x,y],argTypes:= #[T,T]},ty,pos,af,g⟩ t=some true)
 (hk:L[k]? =some b)(ho:b.own=true)(he:b.e=e)(hx:ev t x=some (aB b.base 0 len cap))(hk2:L[k2]? =some b2)(hb2:b2.base=some b2o)(hy:ev t y=some (aB (some b2o) 0 n2 c2))(hs:Nat.blt 0 s=true)(hzs:z.cells.size=s)(hpos:Nat.blt 0 n2=true)
 (hlen:b.cs.length=len*s)(hcap:len<=cap)(hn:cap*s<=b.n)(hlen2:b2.cs.length=n2*s)(h1:∀v∈b2.cs,v.oneCell'=true)(hmax:len+n2<=17179869184)
 (hL:∀r,L.set k ⟨some r.g,e,b.cs++b2.cs,r.n,true⟩=mk r)
 (h:∀r:AR (len+n2) s,aU P bl ops rest ⟨nt,(d,aB (some r.g) 0 (len+n2) r.cap)::t,mk r⟩ K):
 aU P bl ops (⟨some d,.call {callee:= .builtin .append,args:= #[x,y],argTypes:= #[T,T]},ty,pos,af,g⟩::rest) ⟨nt,t,L⟩ K:=by
 obtain⟨inf,i1,i2,i3,i5⟩:=qhL hi;exact qfV
end
def dK{B:Bs}{nt:Nat}{t:List (Nat×Value)}{L:List aF}{Q:Act->World->Prop}(k:Nat){b:Option Nat}{e n:Nat}{cs:List Value}{o:Bool}(hk:L[k]? =some ⟨b,e,cs,n,o⟩)(hcs:cs≠[])(h:b.isSome=true->At B ⟨nt,t,L⟩ Q):At B ⟨nt,t,L⟩ Q:=fun a w hr=>h (by
 cases b with
 |none=>exact absurd ((hr.mem.blk k _ hk).2 rfl).1 hcs
 |some g=>rfl) a w hr
end Go.Via
namespace Go.Via
variable[Mo]
open Go Go.RowKit
def nV{P:Program}{B:Bs}{s:St}{Q:Exit->Act->World->Prop}{x y:Code}{nt:Nat}{X:Type}(T:X->List (Nat×Value))(LL:X->List aF)
 (h1:At B s (x.wp P (Exit.then (fun a w=>∃z,kK B ⟨nt,T z,LL z⟩ a w) Q)))(h2:∀z,At B ⟨nt,T z,LL z⟩ (y.wp P Q)):At B s ((Code.seq x y).wp P Q):=
 Yk fun a w hr=>Code.wp_mono (fun e a w h=>by
 cases e with
 |normal=>obtain⟨z,h⟩:=h;exact h2 z a w h
 |_=>exact h) (h1 a w hr)
def Cb{B:Bs}{nt:Nat}{t:List (Nat×Value)}{L:List aF}{X:Type}{T:X->List (Nat×Value)}{LL:X->List aF}(z:X)(lk:jL t (T z))(hw:fE L (LL z)):At B ⟨nt,t,L⟩ (fun a w=>∃z,kK B ⟨nt,T z,LL z⟩ a w):=fun a w hr=>
 ⟨z,hr.df,hr.size,fun d v hd=>hr.tmp d v (lk.mem (d,v) (vI hd)),hw _ _ hr.mem⟩
end Go.Via
namespace Go.Via
variable[Mo]
open Go Go.RowKit
def Cc(n:Nat)(R:List Nat):Array Bool:=((List.range n).map fun j=> !R.contains j).toArray
theorem Oi{n:Nat}{R:List Nat}{j:Nat}:(Cc n R)[j]? =if j<n then some (!R.contains j) else none:=by
 unfold Cc;simp[List.getElem?_map,List.getElem?_range]
 split<;>simp_all
theorem WT{n:Nat}{R:List Nat}{i:Nat}:(Cc n R).setIfInBounds i true=Cc n (R.filter (· !=i)):=by
 refine Array.ext_getElem? fun j=>?_
 rw[Array.getElem?_setIfInBounds,Oi,Oi];have hs:(Cc n R).size=n:=by simp[Cc]
 rw[hs]
 by_cases e:i=j
 ·subst e
  by_cases h:i<n
  ·simp[h]
  ·simp[h]
 ·rw[if_neg e];have:(R.filter (· !=i)).contains j=R.contains j:=by
   rw[Bool.eq_iff_iff];simp[List.mem_filter];exact fun _ h=>e h.symm
  rw[this]
theorem qhM{n:Nat}:Array.replicate n false=Cc n (List.range n):=by
 refine Array.ext_getElem? fun j=>?_
 rw[Oi,Array.getElem?_replicate]
 split
 ·rename_i h;simp[h]
 ·rfl
def yh(P:Program)(ops:Array Oper)(X:Act->World->Prop)(B:Bs)(n:Nat)(R:List Nat)(s:St):Prop:=∀a w,kK B s a w->wpAny P .any ops (sD X) n (Cc ops.size R) a w
section
variable{P:Program}{ops:Array Oper}{X:Act->World->Prop}{B:Bs}{n:Nat}{R:List Nat}
def qs9{s:St}(h:Region.ready .any ops (Cc ops.size R)=[])(hk:At B s X):yh P ops X B 0 R s:=fun a w hr=>⟨h,hk a w hr⟩
def bI{s:St}(l:List Nat)(h1:Region.ready .any ops (Cc ops.size R)=l)(h2:l.isEmpty=false)
 (h:Eh (fun i=>∃o,ops[i]? =some o∧aU P [1000000] ops [o] s (fun s'=>yh P ops X B n (R.filter (· !=i)) s')) l):yh P ops X B (n+1) R s:=fun a w hr=>by
 refine⟨fun h0=>?_,fun i hi=>?_⟩
 ·rw[h1] at h0;subst h0;cases h2
 ·rw[h1] at hi;obtain⟨o,ho,hs⟩:=h.mem i hi;have:=iM.sound (K':=fun a' w'=>wpAny P .any ops (sD X) n ((Cc ops.size R).setIfInBounds i true) a' w') (Q:=sD X) hs hr (fun s' a' w' hk hr'=>by rw[WT];exact hk a' w' hr')
  unfold wpOp;rw[ho];dsimp only
  split
  ·rename_i hw;rw[if_pos hw] at this;exact .inl this
  ·rename_i hw;rw[if_neg hw] at this;exact this
def qoD{nt:Nat}{t:List (Nat×Value)}{L:List aF}(i:Nat){l':List Oper}(hc:(Region.noSelect ops&&zG ops (Cc ops.size R) [i])=true)(hl:[ops.getD i default]=l')
 (h:aU P [] ops l' ⟨nt,t,[]⟩ (fun s'=>yh P ops X B n (R.filter (· !=i)) ⟨nt,s'.t,L⟩)):yh P ops X B (n+1) R ⟨nt,t,L⟩:=fun a w hr=>by
 simp only[Bool.and_eq_true] at hc;subst hl;have:=xG (P:=P) (B:=B) (w:=w) (nt:=nt) (L:=L) (n:=n) (X:=X) hc.1 (G:=fun t listed=>yh P ops X B n (R.filter (· !=i)) ⟨nt,t,L⟩∧listed=Cc ops.size (R.filter (· !=i)))
  (fun t listed a hG hrel=>by rw[hG.2];exact hG.1 a w hrel) [i] (Cc ops.size R) t a hc.2 (aU.mono (fun s' h=>⟨h,by simp only[List.foldl];exact WT⟩) h) hr
 rw[show[i].length+n=n+1 by simp;omega] at this;exact this
def qoE{nt:Nat}{t:List (Nat×Value)}{L:List aF}{Z:Type}{T:Z->List (Nat×Value)}{LL:Z->List aF}(h:∀z,yh P ops X B n R ⟨nt,T z,LL z⟩)(z:Z)(lk:jL t (T z))(hw:fE L (LL z)):yh P ops X B n R ⟨nt,t,L⟩:=
 fun a w hr=>h z a w ⟨hr.df,hr.size,fun d v hd=>hr.tmp d v (lk.mem (d,v) (vI hd)),hw _ _ hr.mem⟩
def bf{nt:Nat}{Z:Type}(T:Z->List (Nat×Value))(LL:Z->List aF)(m:Nat)(R':List Nat){s:St}(h:∀z,yh P ops X B m R' ⟨nt,T z,LL z⟩)(k:(∀z,yh P ops X B m R' ⟨nt,T z,LL z⟩)->yh P ops X B n R s):yh P ops X B n R s:=k h
end
def qeo{P:Program}{B:Bs}{Q:Exit->Act->World->Prop}{s:St}{id:Nat}{l:List Oper}(n:Nat)(R:List Nat)(hm:P.follows .mixedOrders=true)(hn:(l.length==n&&R==List.range n)=true)
 (h:yh P l.toArray (Q .normal) B n R s):At B s ((Code.region id l.toArray true).wp P Q):=fun a w hr=>by
 simp only[Bool.and_eq_true,beq_iff_eq] at hn;obtain⟨rfl,rfl⟩:=hn;refine wp_region_any hm ?_;have hsz:l.toArray.size=l.length:=bz
 refine pF (Q:=sD (Q .normal)) (Q':=Q) (fun _ _ h=>h) (fun _ _ _ h=>h.elim) (fun⟨_,_,h⟩=>h.elim) _ _ _ _ ?_;rw[qhM];have:=h a _ hr.drew;rw[hsz] at*;exact this
end Go.Via
namespace Go.Via
open Go Go.RowKit
def yV{P:Program}{B:Bs}{Q:Exit->Act->World->Prop}{nt:Nat}{t:List (Nat×Value)}{L:List aF}{id:Nat}{l:List Oper}{Z:Type}(T:Z->List (Nat×Value))(LL:Z->List aF)(n:Nat)(R:List Nat)(hm:P.follows .mixedOrders=true)
 (hn:(l.length==n&&R==List.range n&&(Region.ready .any l.toArray (Cc l.toArray.size [])).isEmpty)=true)
 (h:(∀z,yh P l.toArray (Q .normal) B 0 [] ⟨nt,T z,LL z⟩)->yh P l.toArray (Q .normal) B n R ⟨nt,t,L⟩)(hk:∀z,At B ⟨nt,T z,LL z⟩ (Q .normal)):At B ⟨nt,t,L⟩ ((Code.region id l.toArray true).wp P Q):=by
 rw[Bool.and_eq_true] at hn;exact qeo n R hm hn.1 (h fun z=>qs9 (List.isEmpty_iff.1 hn.2) (hk z))
end Go.Via
namespace Go.Via
variable[Mo]
open Go Go.RowKit
section
variable{P:Program}{bl:List Nat}{ops:Array Oper}{K:St->Prop}{rest:List Oper}{nt:Nat}{t:List (Nat×Value)}{L:List aF}{d:Nat}{ty:TypeId}{pos:String}{af:Array Edge}{g:Option (Nat×Bool)}{x y:Operand}
def L2{T:Nat}{i:TI}{b:aF}{a0 a1:Value}(k off:Nat)(h:aU P bl ops rest ⟨nt,(d,.agg #[a0,a1])::t,L⟩ K)(hi:dH P T i=true:=by exact xm _)(hd:Nat.blt d nt=true:=by rfl)(hg:az ops ⟨some d,.load T x,ty,pos,af,g⟩ t=some true:=by rfl)(hk:(blank bl L)[k]? =some b:=by rfl)(hx:ev t x=some (b.at off):=by rfl)(hvs:(b.cs.drop off).take i.size=[a0,a1]:=by rfl)(hlen:Nat.beq i.size 2=true:=by rfl)(ha:i.agg=true:=by rfl):aU P bl ops (⟨some d,.load T x,ty,pos,af,g⟩::rest) ⟨nt,t,L⟩ K:=aT k off [a0,a1] hd hg hk hx hi hvs (Nat.eq_of_beq_eq_true hlen).symm ED qW h
def L4{T:Nat}{i:TI}{b:aF}{a0 a1 a2 a3:Value}(k off:Nat)(h:aU P bl ops rest ⟨nt,(d,.agg #[a0,a1,a2,a3])::t,L⟩ K)(hi:dH P T i=true:=by exact xm _)(hd:Nat.blt d nt=true:=by rfl)(hg:az ops ⟨some d,.load T x,ty,pos,af,g⟩ t=some true:=by rfl)(hk:(blank bl L)[k]? =some b:=by rfl)(hx:ev t x=some (b.at off):=by rfl)(hvs:(b.cs.drop off).take i.size=[a0,a1,a2,a3]:=by rfl)(hlen:Nat.beq i.size 4=true:=by rfl)(ha:i.agg=true:=by rfl):aU P bl ops (⟨some d,.load T x,ty,pos,af,g⟩::rest) ⟨nt,t,L⟩ K:=aT k off [a0,a1,a2,a3] hd hg hk hx hi hvs (Nat.eq_of_beq_eq_true hlen).symm ED qW h
def L8{T:Nat}{i:TI}{b:aF}{a0 a1 a2 a3 a4 a5 a6 a7:Value}(k off:Nat)(h:aU P bl ops rest ⟨nt,(d,.agg #[a0,a1,a2,a3,a4,a5,a6,a7])::t,L⟩ K)(hi:dH P T i=true:=by exact xm _)(hd:Nat.blt d nt=true:=by rfl)(hg:az ops ⟨some d,.load T x,ty,pos,af,g⟩ t=some true:=by rfl)(hk:(blank bl L)[k]? =some b:=by rfl)(hx:ev t x=some (b.at off):=by rfl)(hvs:(b.cs.drop off).take i.size=[a0,a1,a2,a3,a4,a5,a6,a7]:=by rfl)(hlen:Nat.beq i.size 8=true:=by rfl)(ha:i.agg=true:=by rfl):aU P bl ops (⟨some d,.load T x,ty,pos,af,g⟩::rest) ⟨nt,t,L⟩ K:=aT k off [a0,a1,a2,a3,a4,a5,a6,a7] hd hg hk hx hi hvs (Nat.eq_of_beq_eq_true hlen).symm ED qW h
def L9{T:Nat}{i:TI}{b:aF}{a0 a1 a2 a3 a4 a5 a6 a7 a8:Value}(k off:Nat)(h:aU P bl ops rest ⟨nt,(d,.agg #[a0,a1,a2,a3,a4,a5,a6,a7,a8])::t,L⟩ K)(hi:dH P T i=true:=by exact xm _)(hd:Nat.blt d nt=true:=by rfl)(hg:az ops ⟨some d,.load T x,ty,pos,af,g⟩ t=some true:=by rfl)(hk:(blank bl L)[k]? =some b:=by rfl)(hx:ev t x=some (b.at off):=by rfl)(hvs:(b.cs.drop off).take i.size=[a0,a1,a2,a3,a4,a5,a6,a7,a8]:=by rfl)(hlen:Nat.beq i.size 9=true:=by rfl)(ha:i.agg=true:=by rfl):aU P bl ops (⟨some d,.load T x,ty,pos,af,g⟩::rest) ⟨nt,t,L⟩ K:=aT k off [a0,a1,a2,a3,a4,a5,a6,a7,a8] hd hg hk hx hi hvs (Nat.eq_of_beq_eq_true hlen).symm ED qW h
def L10{T:Nat}{i:TI}{b:aF}{a0 a1 a2 a3 a4 a5 a6 a7 a8 a9:Value}(k off:Nat)(h:aU P bl ops rest ⟨nt,(d,.agg #[a0,a1,a2,a3,a4,a5,a6,a7,a8,a9])::t,L⟩ K)(hi:dH P T i=true:=by exact xm _)(hd:Nat.blt d nt=true:=by rfl)(hg:az ops ⟨some d,.load T x,ty,pos,af,g⟩ t=some true:=by rfl)(hk:(blank bl L)[k]? =some b:=by rfl)(hx:ev t x=some (b.at off):=by rfl)(hvs:(b.cs.drop off).take i.size=[a0,a1,a2,a3,a4,a5,a6,a7,a8,a9]:=by rfl)(hlen:Nat.beq i.size 10=true:=by rfl)(ha:i.agg=true:=by rfl):aU P bl ops (⟨some d,.load T x,ty,pos,af,g⟩::rest) ⟨nt,t,L⟩ K:=aT k off [a0,a1,a2,a3,a4,a5,a6,a7,a8,a9] hd hg hk hx hi hvs (Nat.eq_of_beq_eq_true hlen).symm ED qW h
def xg{T:Nat}{i:TI}{b:aF}{a0 a1 a2 a3 a4 a5 a6 a7 a8 a9 a10 a11:Value}(k off:Nat)(h:aU P bl ops rest ⟨nt,(d,.agg #[a0,a1,a2,a3,a4,a5,a6,a7,a8,a9,a10,a11])::t,L⟩ K)(hi:dH P T i=true:=by exact xm _)(hd:Nat.blt d nt=true:=by rfl)(hg:az ops ⟨some d,.load T x,ty,pos,af,g⟩ t=some true:=by rfl)(hk:(blank bl L)[k]? =some b:=by rfl)(hx:ev t x=some (b.at off):=by rfl)(hvs:(b.cs.drop off).take i.size=[a0,a1,a2,a3,a4,a5,a6,a7,a8,a9,a10,a11]:=by rfl)(hlen:Nat.beq i.size 12=true:=by rfl)(ha:i.agg=true:=by rfl):aU P bl ops (⟨some d,.load T x,ty,pos,af,g⟩::rest) ⟨nt,t,L⟩ K:=aT k off [a0,a1,a2,a3,a4,a5,a6,a7,a8,a9,a10,a11] hd hg hk hx hi hvs (Nat.eq_of_beq_eq_true hlen).symm ED qW h
def L16{T:Nat}{i:TI}{b:aF}{a0 a1 a2 a3 a4 a5 a6 a7 a8 a9 a10 a11 a12 a13 a14 a15:Value}(k off:Nat)(h:aU P bl ops rest ⟨nt,(d,.agg #[a0,a1,a2,a3,a4,a5,a6,a7,a8,a9,a10,a11,a12,a13,a14,a15])::t,L⟩ K)(hi:dH P T i=true:=by exact xm _)(hd:Nat.blt d nt=true:=by rfl)(hg:az ops ⟨some d,.load T x,ty,pos,af,g⟩ t=some true:=by rfl)(hk:(blank bl L)[k]? =some b:=by rfl)(hx:ev t x=some (b.at off):=by rfl)(hvs:(b.cs.drop off).take i.size=[a0,a1,a2,a3,a4,a5,a6,a7,a8,a9,a10,a11,a12,a13,a14,a15]:=by rfl)(hlen:Nat.beq i.size 16=true:=by rfl)(ha:i.agg=true:=by rfl):aU P bl ops (⟨some d,.load T x,ty,pos,af,g⟩::rest) ⟨nt,t,L⟩ K:=aT k off [a0,a1,a2,a3,a4,a5,a6,a7,a8,a9,a10,a11,a12,a13,a14,a15] hd hg hk hx hi hvs (Nat.eq_of_beq_eq_true hlen).symm ED qW h
def zO{T:Nat}{i:TI}{b:aF}{a0 a1 a2 a3 a4 a5 a6 a7 a8 a9 a10 a11 a12 a13 a14 a15 a16 a17 a18 a19:Value}(k off:Nat)(h:aU P bl ops rest ⟨nt,(d,.agg #[a0,a1,a2,a3,a4,a5,a6,a7,a8,a9,a10,a11,a12,a13,a14,a15,a16,a17,a18,a19])::t,L⟩ K)(hi:dH P T i=true:=by exact xm _)(hd:Nat.blt d nt=true:=by rfl)(hg:az ops ⟨some d,.load T x,ty,pos,af,g⟩ t=some true:=by rfl)(hk:(blank bl L)[k]? =some b:=by rfl)(hx:ev t x=some (b.at off):=by rfl)(hvs:(b.cs.drop off).take i.size=[a0,a1,a2,a3,a4,a5,a6,a7,a8,a9,a10,a11,a12,a13,a14,a15,a16,a17,a18,a19]:=by rfl)(hlen:Nat.beq i.size 20=true:=by rfl)(ha:i.agg=true:=by rfl):aU P bl ops (⟨some d,.load T x,ty,pos,af,g⟩::rest) ⟨nt,t,L⟩ K:=aT k off [a0,a1,a2,a3,a4,a5,a6,a7,a8,a9,a10,a11,a12,a13,a14,a15,a16,a17,a18,a19] hd hg hk hx hi hvs (Nat.eq_of_beq_eq_true hlen).symm ED qW h
def L36{T:Nat}{i:TI}{b:aF}{a0 a1 a2 a3 a4 a5 a6 a7 a8 a9 a10 a11 a12 a13 a14 a15 a16 a17 a18 a19 a20 a21 a22 a23 a24 a25 a26 a27 a28 a29 a30 a31 a32 a33 a34 a35:Value}(k off:Nat)(h:aU P bl ops rest ⟨nt,(d,.agg #[a0,a1,a2,a3,a4,a5,a6,a7,a8,a9,a10,a11,a12,a13,a14,a15,a16,a17,a18,a19,a20,a21,a22,a23,a24,a25,a26,a27,a28,a29,a30,a31,a32,a33,a34,a35])::t,L⟩ K)(hi:dH P T i=true:=by exact xm _)(hd:Nat.blt d nt=true:=by rfl)(hg:az ops ⟨some d,.load T x,ty,pos,af,g⟩ t=some true:=by rfl)(hk:(blank bl L)[k]? =some b:=by rfl)(hx:ev t x=some (b.at off):=by rfl)(hvs:(b.cs.drop off).take i.size=[a0,a1,a2,a3,a4,a5,a6,a7,a8,a9,a10,a11,a12,a13,a14,a15,a16,a17,a18,a19,a20,a21,a22,a23,a24,a25,a26,a27,a28,a29,a30,a31,a32,a33,a34,a35]:=by rfl)(hlen:Nat.beq i.size 36=true:=by rfl)(ha:i.agg=true:=by rfl):aU P bl ops (⟨some d,.load T x,ty,pos,af,g⟩::rest) ⟨nt,t,L⟩ K:=aT k off [a0,a1,a2,a3,a4,a5,a6,a7,a8,a9,a10,a11,a12,a13,a14,a15,a16,a17,a18,a19,a20,a21,a22,a23,a24,a25,a26,a27,a28,a29,a30,a31,a32,a33,a34,a35] hd hg hk hx hi hvs (Nat.eq_of_beq_eq_true hlen).symm ED qW h
def L38{T:Nat}{i:TI}{b:aF}{a0 a1 a2 a3 a4 a5 a6 a7 a8 a9 a10 a11 a12 a13 a14 a15 a16 a17 a18 a19 a20 a21 a22 a23 a24 a25 a26 a27 a28 a29 a30 a31 a32 a33 a34 a35 a36 a37:Value}(k off:Nat)(h:aU P bl ops rest ⟨nt,(d,.agg #[a0,a1,a2,a3,a4,a5,a6,a7,a8,a9,a10,a11,a12,a13,a14,a15,a16,a17,a18,a19,a20,a21,a22,a23,a24,a25,a26,a27,a28,a29,a30,a31,a32,a33,a34,a35,a36,a37])::t,L⟩ K)(hi:dH P T i=true:=by exact xm _)(hd:Nat.blt d nt=true:=by rfl)(hg:az ops ⟨some d,.load T x,ty,pos,af,g⟩ t=some true:=by rfl)(hk:(blank bl L)[k]? =some b:=by rfl)(hx:ev t x=some (b.at off):=by rfl)(hvs:(b.cs.drop off).take i.size=[a0,a1,a2,a3,a4,a5,a6,a7,a8,a9,a10,a11,a12,a13,a14,a15,a16,a17,a18,a19,a20,a21,a22,a23,a24,a25,a26,a27,a28,a29,a30,a31,a32,a33,a34,a35,a36,a37]:=by rfl)(hlen:Nat.beq i.size 38=true:=by rfl)(ha:i.agg=true:=by rfl):aU P bl ops (⟨some d,.load T x,ty,pos,af,g⟩::rest) ⟨nt,t,L⟩ K:=aT k off [a0,a1,a2,a3,a4,a5,a6,a7,a8,a9,a10,a11,a12,a13,a14,a15,a16,a17,a18,a19,a20,a21,a22,a23,a24,a25,a26,a27,a28,a29,a30,a31,a32,a33,a34,a35,a36,a37] hd hg hk hx hi hvs (Nat.eq_of_beq_eq_true hlen).symm ED qW h
def Al{T:Nat}{l:List Value}{mk:Nat->List aF}(n:Nat)(hz:(P.info? T).bind (·.zero)=some (.agg l.toArray))(h:∀b,aU P bl ops rest ⟨nt,(d,.pointer (some ⟨b,0,none⟩))::t,mk b⟩ K)(hd:Nat.blt d nt=true:=by rfl)(hg:az ops ⟨some d,.alloc T,ty,pos,af,g⟩ t=some true:=by rfl)(hn:l.length=n:=by rfl)(hL:∀b,L++[⟨some b,T,l,n,true⟩]=mk b:=by intro b;first|(dsimp only[List.cons_append,List.nil_append];done)|(dsimp only[List.cons_append,List.nil_append];exact rfl)|exact rfl)(hT:Nat.blt T cO=true:=by rfl):aU P bl ops (⟨some d,.alloc T,ty,pos,af,g⟩::rest) ⟨nt,t,L⟩ K:=DR l n mk hd hg hz rfl hn hL h hT
def Bp{T:Nat}{l:List Value}{mk:Nat->List aF}(n:Nat)(h:∀b,aU P bl ops rest ⟨nt,(d,.pointer (some ⟨b,0,none⟩))::t,mk b⟩ K)(hd:Nat.blt d nt=true:=by rfl)(hg:az ops ⟨some d,.box T x,ty,pos,af,g⟩ t=some true:=by rfl)(hx:ev t x=some (.agg l.toArray):=by rfl)(hn:l.length=n:=by rfl)(hL:∀b,L++[⟨some b,T,l,n,true⟩]=mk b:=by intro b;first|(dsimp only[List.cons_append,List.nil_append];done)|(dsimp only[List.cons_append,List.nil_append];exact rfl)|exact rfl)(hT:Nat.blt T cO=true:=by rfl):aU P bl ops (⟨some d,.box T x,ty,pos,af,g⟩::rest) ⟨nt,t,L⟩ K:=qpZ l n mk hd hg hx rfl hn hL h hT
def Sc{f:Nat}{args:List Operand}{ts:Array TypeId}{vs:List Value}{L0:List aF}{X:Type}[hX:Nonempty X]{res:X->Value}{new:X->List aF}(ks:List Nat)(hd:Nat.blt d nt=true:=by rfl)(hg:az ops ⟨some d,.call {callee:= .value (.func f),args:=args.toArray,argTypes:=ts},ty,pos,af,g⟩ t=some true:=by rfl)(hv:args.map (ev t)=vs.map some:=by rfl):∀(hc:bQ P f L0 vs X res new) (h:∀x,aU P bl ops rest ⟨nt,(d,res x)::t,L++new x⟩ K) (hp:jf L (ks.map some) L0:=by repeat (first|exact trivial|refine⟨⟨_,rfl,aF.le_refl _⟩,?_⟩|refine⟨⟨_,rfl,iC⟩,?_⟩)) (ho:(L0.all fun b=> !b.own)=true:=by rfl) (hn:False∨∀x,∀b∈new x,b.own=true:=by first|exact .inr fun x b hb=>by rw[List.mem_singleton.1 hb]|exact .inr fun x b hb=>qqp),aU P bl ops (⟨some d,.call {callee:= .value (.func f),args:=args.toArray,argTypes:=ts},ty,pos,af,g⟩::rest) ⟨nt,t,L⟩ K:=fun hc h hp ho hn=>iJ vs ks hd hg hv hc hp ho hn h
def Sd{f:Nat}{args:List Operand}{ts:Array TypeId}{vs:List Value}{L0:List aF}{v:Value}(ks:List Nat)(hd:Nat.blt d nt=true:=by rfl)(hg:az ops ⟨some d,.call {callee:= .value (.func f),args:=args.toArray,argTypes:=ts},ty,pos,af,g⟩ t=some true:=by rfl)(hv:args.map (ev t)=vs.map some:=by rfl):∀(hc:bQ P f L0 vs Unit (fun _=>v) (fun _=>[])) (h:aU P bl ops rest ⟨nt,(d,v)::t,L⟩ K) (hp:jf L (ks.map some) L0:=by repeat (first|exact trivial|refine⟨⟨_,rfl,aF.le_refl _⟩,?_⟩|refine⟨⟨_,rfl,iC⟩,?_⟩)) (ho:(L0.all fun b=> !b.own)=true:=by rfl),aU P bl ops (⟨some d,.call {callee:= .value (.func f),args:=args.toArray,argTypes:=ts},ty,pos,af,g⟩::rest) ⟨nt,t,L⟩ K:=fun hc h hp ho=>iD vs ks hd hg hv hc hp ho h
def Dv{op:BinOp}{T U:Nat}{k:IntKind}{m n:Int}(r:Int)(hd:Nat.blt d nt=true:=by rfl)(hg:az ops ⟨some d,.binOp op T x y U,ty,pos,af,g⟩ t=some true:=by rfl)(hx:ev t x=some (.int k m):=by rfl)(hy:ev t y=some (.int k n):=by rfl):∀(hr:(match op with| .quo=>some (k.wrap (m.tdiv n))| .rem=>some (m.tmod n)|_=>none)=some r) (h:aU P bl ops rest ⟨nt,(d,.int k r)::t,L⟩ K) (hn:n≠0:=by omega),aU P bl ops (⟨some d,.binOp op T x y U,ty,pos,af,g⟩::rest) ⟨nt,t,L⟩ K:=fun hr h hn=>qf6 hd hg hx hy hn hr h
def Aq{op:BinOp}{T U:Nat}{k:IntKind}{m n:Int}(r:Int)(hd:Nat.blt d nt=true:=by rfl)(hg:az ops ⟨some d,.binOp op T x y U,ty,pos,af,g⟩ t=some true:=by rfl)(hx:ev t x=some (.int k m):=by rfl)(hy:ev t y=some (.int k n):=by rfl):∀(hr:(match op with| .add=>some (k.wrap (m+n))| .sub=>some (k.wrap (m-n))| .mul=>some (k.wrap (m*n))|_=>none)=some r) (h:aU P bl ops rest ⟨nt,(d,.int k r)::t,L⟩ K),aU P bl ops (⟨some d,.binOp op T x y U,ty,pos,af,g⟩::rest) ⟨nt,t,L⟩ K:=fun hr h=>qbs hd hg hx hy hr h
def Sv{op:BinOp}{T U:Nat}{k k':IntKind}{m n:Int}(r:Int)(hd:Nat.blt d nt=true:=by rfl)(hg:az ops ⟨some d,.binOp op T x y U,ty,pos,af,g⟩ t=some true:=by rfl)(hx:ev t x=some (.int k m):=by rfl)(hy:ev t y=some (.int k' n):=by rfl):∀(hr:(match op with| .shl=>some (k.wrap (m*2^(min n.toNat k.bits)))| .shr=>some (m.fdiv (2^(min n.toNat k.bits)))|_=>none)=some r) (h:aU P bl ops rest ⟨nt,(d,.int k r)::t,L⟩ K) (hn:¬n<0:=by omega),aU P bl ops (⟨some d,.binOp op T x y U,ty,pos,af,g⟩::rest) ⟨nt,t,L⟩ K:=fun hr h hn=>qm6 hd hg hx hy hn hr h
def Cv{S D:Nat}{k k':IntKind}{n:Int}(r:Int)(hS:P.underlying S=some (.int k))(hD:P.underlying D=some (.int k'))(hd:Nat.blt d nt=true:=by rfl)(hg:az ops ⟨some d,.convert S D x,ty,pos,af,g⟩ t=some true:=by rfl)(hx:ev t x=some (.int k n):=by rfl):∀(hr:k'.wrap n=r) (h:aU P bl ops rest ⟨nt,(d,.int k' r)::t,L⟩ K),aU P bl ops (⟨some d,.convert S D x,ty,pos,af,g⟩::rest) ⟨nt,t,L⟩ K:=fun hr h=>qf7 hS hD hd hg hx hr h
def Lo{T:Nat}{b:aF}{v:Value}(k off:Nat)(hi:dH P T ⟨false,1,[]⟩=true:=by exact xm _)(hd:Nat.blt d nt=true:=by rfl)(hg:az ops ⟨some d,.load T x,ty,pos,af,g⟩ t=some true:=by rfl)(hk:(blank bl L)[k]? =some b:=by rfl)(hx:ev t x=some (b.at off):=by rfl):∀(hv:b.cs[off]? =some v) (h:aU P bl ops rest ⟨nt,(d,v)::t,L⟩ K),aU P bl ops (⟨some d,.load T x,ty,pos,af,g⟩::rest) ⟨nt,t,L⟩ K:=fun hv h=>Tn k off hi hd hg hk hx hv h
def Fg{T:Nat}{j:Nat}{i:TI}{gg:Nat}(off fo:Nat){fs:Nat}{off':Nat}(h:aU P bl ops rest ⟨nt,(d,.pointer (some ⟨gg,off',none⟩))::t,L⟩ K)(hd:Nat.blt d nt=true:=by rfl)(hg:az ops ⟨some d,.fieldAddr T x j,ty,pos,af,g⟩ t=some true:=by rfl)(hx:ev t x=some (.pointer (some ⟨gg,off,none⟩)):=by rfl)(hi:dH P T i=true:=by exact xm _)(hf:i.flds[j]? =some (fo,fs+1):=by rfl)(ho:off+fo=off':=by rfl):aU P bl ops (⟨some d,.fieldAddr T x j,ty,pos,af,g⟩::rest) ⟨nt,t,L⟩ K:=dS off fo hd hg hx hi hf ho h
def Bu{T:Nat}{parts:List (Nat×Operand)}(ps:List (Nat×Value)){v:Value}(hd:Nat.blt d nt=true:=by rfl)(hg:az ops ⟨some d,.build T parts.toArray,ty,pos,af,g⟩ t=some true:=by rfl)(hx:parts.map (fun p=>(p.1,ev t p.2))=ps.map (fun p=>(p.1,some p.2)):=by rfl):∀(hb:∀w,(Instr.build T ps.toArray).run P w= .ok v w) (h:aU P bl ops rest ⟨nt,(d,v)::t,L⟩ K),aU P bl ops (⟨some d,.build T parts.toArray,ty,pos,af,g⟩::rest) ⟨nt,t,L⟩ K:=fun hb h=>qbr ps hd hg hx hb h
def Bl{T n:Nat}{parts:List (Nat×Operand)}(nn:Nat)(ps:List (Nat×Value)){e:Nat}{cs:List Value}{mk:Nat->List aF}(hd:Nat.blt d nt=true:=by rfl)(hg:az ops ⟨some d,.buildSlice T n parts.toArray,ty,pos,af,g⟩ t=some true:=by rfl)(hx:parts.map (fun p=>(p.1,ev t p.2))=ps.map (fun p=>(p.1,some p.2)):=by rfl):∀(hb:∀w,(Instr.buildSlice T n ps.toArray).run P w= .ok (.slice (some ⟨w.heap.size,0,none⟩) n n) (w.alloc (.cells cs.toArray e))) (h:∀b,aU P bl ops rest ⟨nt,(d,aB (some b) 0 n n)::t,mk b⟩ K) (hnn:cs.length=nn:=by rfl) (hL:∀b,L++[⟨some b,e,cs,nn,true⟩]=mk b:=by intro b;first|(dsimp only[List.cons_append,List.nil_append];done)|(dsimp only[List.cons_append,List.nil_append];exact rfl)|exact rfl) (hem:Nat.blt e cO=true:=by rfl),aU P bl ops (⟨some d,.buildSlice T n parts.toArray,ty,pos,af,g⟩::rest) ⟨nt,t,L⟩ K:=fun hb h hnn hL hem=>GH ps mk hd hg hx hb hnn hL h hem
def S1{T:Nat}{b:aF}{v:Value}(k off:Nat)(L':List aF)(cs':List Value)(hbl:IE bl=false:=by rfl)(hi:dH P T ⟨false,1,[]⟩=true:=by exact xm _)(hg:az ops ⟨none,.store T x y,ty,pos,af,g⟩ t=some true:=by rfl)(hk:L[k]? =some b:=by rfl)(ho:b.own=true:=by rfl)(hbb:b.base.isSome=true:=by rfl)(hx:ev t x=some (b.at off):=by rfl)(hy:ev t y=some v:=by rfl)(hv:v.cells= #[v]:=by rfl)(h1:v.oneCell'=true:=by rfl):∀(hfit:off<b.cs.length) (hcs:b.cs.set off v=cs') (h:aU P bl ops rest ⟨nt,t,L'⟩ K) (hL:L.set k {b with cs:=cs'}=L':=by rfl),aU P bl ops (⟨none,.store T x y,ty,pos,af,g⟩::rest) ⟨nt,t,L⟩ K:=fun hfit hcs h hL=>qf8 hbl k off L' cs' hi hg hk ho hbb hx hy hv h1 hfit hcs hL h
def Qa{T e s:Nat}{z:Value}{b:aF}{len cap b2o n2 c2:Nat}{b2:aF}(k k2:Nat)(mk:AR (len+n2) s->List aF)(hT:P.underlying T=some (.slice e))(hi:Nk P e s z)(hd:Nat.blt d nt=true:=by rfl)(hg:az ops ⟨some d,.call {callee:= .builtin .append,args:= #[x,y],argTypes:= #[T,T]},ty,pos,af,g⟩ t=some true:=by rfl)(hk:L[k]? =some b:=by rfl)(ho:b.own=true:=by rfl)(he:b.e=e:=by rfl)(hx:ev t x=some (aB b.base 0 len cap):=by rfl)(hk2:L[k2]? =some b2:=by rfl)(hb2:b2.base=some b2o:=by rfl)(hy:ev t y=some (aB (some b2o) 0 n2 c2):=by rfl)(hs:Nat.blt 0 s=true:=by rfl)(hzs:z.cells.size=s:=by rfl)(hpos:Nat.blt 0 n2=true:=by rfl):∀(hlen:b.cs.length=len*s) (hcap:len<=cap) (hn:cap*s<=b.n) (h1:∀v∈b2.cs,v.oneCell'=true) (h:∀r:AR (len+n2) s,aU P bl ops rest ⟨nt,(d,aB (some r.g) 0 (len+n2) r.cap)::t,mk r⟩ K) (hlen2:b2.cs.length=n2*s:=by rfl) (hmax:len+n2<=17179869184:=by omega) (hL:∀r,L.set k ⟨some r.g,e,b.cs++b2.cs,r.n,true⟩=mk r:=by exact fun _=>rfl),aU P bl ops (⟨some d,.call {callee:= .builtin .append,args:= #[x,y],argTypes:= #[T,T]},ty,pos,af,g⟩::rest) ⟨nt,t,L⟩ K:=fun hlen hcap hn h1 h hlen2 hmax hL=>mO k k2 mk hT hi hd hg hk ho he hx hk2 hb2 hy hs hzs hpos hlen hcap hn hlen2 h1 hmax hL h
def Qo{T e s:Nat}{zz:Value}{b:aF}{len cap off2 n2 c2:Nat}{b2:aF}(k k2:Nat)(news:List Value)(mk:OR (len+n2) s->List aF)(hT:P.underlying T=some (.slice e))(hi:Nk P e s zz)(hd:Nat.blt d nt=true:=by rfl)(hg:az ops ⟨some d,.call {callee:= .builtin .append,args:= #[x,y],argTypes:= #[T,T]},ty,pos,af,g⟩ t=some true:=by rfl)(hk:L[k]? =some b:=by rfl)(ho:b.own=true:=by rfl)(he:b.e=e:=by rfl)(hx:ev t x=some (aB b.base 0 len cap):=by rfl)(hk2:L[k2]? =some b2:=by rfl)(hy:ev t y=some (aB b2.base off2 n2 c2):=by rfl)(hs:Nat.blt 0 s=true:=by rfl)(hzs:zz.cells.size=s:=by rfl):∀(hlen:b.cs.length=len*s) (hcap:len<=cap) (hn:cap*s<=b.n) (hb2:n2=0∨∃g,b2.base=some g) (hnew:(b2.cs.drop off2).take (n2*s)=news) (hlen2:news.length=n2*s) (h1:∀v∈news,v.oneCell'=true) (h:∀r:OR (len+n2) s,aU P bl ops rest ⟨nt,(d,aB r.b 0 (len+n2) r.cap)::t,mk r⟩ K) (hmax:len+n2<=17179869184:=by omega) (hL:∀r,L.set k ⟨r.b,e,b.cs++news,r.n,true⟩=mk r:=by exact fun _=>rfl),aU P bl ops (⟨some d,.call {callee:= .builtin .append,args:= #[x,y],argTypes:= #[T,T]},ty,pos,af,g⟩::rest) ⟨nt,t,L⟩ K:=fun hlen hcap hn hb2 hnew hlen2 h1 h hmax hL=>jl k k2 news mk hT hi hd hg hk ho he hx hk2 hy hs hzs hlen hcap hn hb2 hnew hlen2 h1 hmax hL h
def Iz{T e N:Nat}{k:IntKind}{i:Int}{gg:Nat}{off:Nat}{inf:TI}(off':Nat)(hT:P.underlying T=some (.array N e))(hinf:dH P e inf=true)(h:aU P bl ops rest ⟨nt,(d,.pointer (some ⟨gg,off',none⟩))::t,L⟩ K)(hd:Nat.blt d nt=true:=by rfl)(hg:az ops ⟨some d,.indexAddr T x y,ty,pos,af,g⟩ t=some true:=by rfl)(hx:ev t x=some (.pointer (some ⟨gg,off,none⟩)):=by rfl)(hy:ev t y=some (.int k i):=by rfl)(h0:0<=i:=by omega)(h1:i<N:=by omega)(ho:off+i.toNat*inf.size=off':=by first|rfl|(show _+Int.toNat _*1=_;first|rfl|omega)):aU P bl ops (⟨some d,.indexAddr T x y,ty,pos,af,g⟩::rest) ⟨nt,t,L⟩ K:=uO off' hT hinf hd hg hx hy h0 h1 ho h
def qta{v:Value}{l cs:List Value}{n:Nat}(hv:v= .agg l.toArray)(h1:Nat.beq l.length n=true)(h2:Nat.beq l.length cs.length=true):cs.take 0++v.cells.toList++cs.drop (0+n)=l:=by have h3:=Nat.eq_of_beq_eq_true h1;have h4:=Nat.eq_of_beq_eq_true h2;subst hv;show[]++l++cs.drop (0+n)=l;rw[<-h3,h4];simp
def qtb{v:Value}{l cs cs':List Value}{off n:Nat}(hv:v= .agg l.toArray)(h:cs.take off++l++cs.drop (off+n)=cs'):cs.take off++v.cells.toList++cs.drop (off+n)=cs':=by subst hv;exact h
def Ss{T:Nat}{i:TI}{gg e n:Nat}{cs cs':List Value}{v:Value}{L':List aF}{off:Nat}(k:Nat)(h:aU P bl ops rest ⟨nt,t,L'⟩ K)(hbl:IE bl=false:=by rfl)(hg:az ops ⟨none,.store T x y,ty,pos,af,g⟩ t=some true:=by rfl)(hk:L[k]? =some ⟨some gg,e,cs,n,true⟩:=by rfl)(hx:ev t x=some (.pointer (some ⟨gg,off,none⟩)):=by rfl)(hy:ev t y=some v:=by rfl)(hi:dH P T i=true:=by exact xm _)(hsz:v.cells.size=i.size:=by rfl)(hfit:Nat.ble (off+i.size) cs.length=true:=by rfl)(h1:(v.cells.toList.all fun u=>u.oneCell')=true:=by rfl)(hcs:cs.take off++v.cells.toList++cs.drop (off+i.size)=cs':=by first|exact qta rfl rfl rfl|exact qtb rfl (by first|(dsimp only[List.take_succ_cons,List.take_zero,List.drop_succ_cons,List.drop_zero,List.cons_append,List.nil_append,List.append_nil,Value.cells];done)|(dsimp only[List.take_succ_cons,List.take_zero,List.drop_succ_cons,List.drop_zero,List.cons_append,List.nil_append,List.append_nil,Value.cells];exact rfl))|(dsimp only[List.take_succ_cons,List.take_zero,List.drop_succ_cons,List.drop_zero,List.cons_append,List.nil_append,List.append_nil,Value.cells];done)|(dsimp only[List.take_succ_cons,List.take_zero,List.drop_succ_cons,List.drop_zero,List.cons_append,List.nil_append,List.append_nil,Value.cells];exact rfl)|exact rfl)(hL:L.set k ⟨some gg,e,cs',n,true⟩=L':=by first|(dsimp only[List.set_cons_zero,List.set_cons_succ];done)|(dsimp only[List.set_cons_zero,List.set_cons_succ];exact rfl)|exact rfl)(hpos:Nat.blt 0 i.size=true:=by rfl):aU P bl ops (⟨none,.store T x y,ty,pos,af,g⟩::rest) ⟨nt,t,L⟩ K:=jB hbl k off L' cs' hg hk hx hy hi hsz hfit h1 hcs hL h hpos
end
section
variable{P:Program}{f:Nat}{fn:Func}{c:Code}{v:Value}{L:List aF}{X:Type}{res:X->Value}{new:X->List aF}
def pB0(nt:Nat)(hf:P.funcs[f]? =some fn)(h:∀w:World,At (Bs.of w) ⟨nt,[],[]⟩ (c.wp P (bodyPost P fn fun e w'=>e= .returned v∧dV w.heap.size w w')))(hp:iP P f=true:=by kernel_rfl)(hb:fn.body=some c:=by rfl)(hnt:fn.ntmps=nt:=by rfl)(hn:Nat.ble 0 fn.ntmps=true:=by rfl):aG P f #[] v:=⟨hp,fun w=>cB0 nt hf (aX.nil w) (h w) hb hnt hn⟩
def sB0(nt:Nat)(hf:P.funcs[f]? =some fn)(h:∀w:World,aX (Bs.of w) L w->At (Bs.of w) ⟨nt,[],L⟩ (c.wp P (bodyPost P fn fun e w'=>∃x,e= .returned (res x)∧aX (Bs.of w) (new x) w')))(hp:iP P f=true:=by kernel_rfl)(hb:fn.body=some c:=by rfl)(hnt:fn.ntmps=nt:=by rfl)(hn:Nat.ble 0 fn.ntmps=true:=by rfl):bQ P f L [] X res new:=⟨hp,fun w hL0=>cB0 nt hf hL0 (h w hL0) hb hnt hn⟩
def vC{v0:Value}(nt:Nat)(hf:P.funcs[f]? =some fn)(h:∀w:World,At (Bs.of w) ⟨nt,[(0,v0)],[]⟩ (c.wp P (bodyPost P fn fun e w'=>e= .returned v∧dV w.heap.size w w')))(hp:iP P f=true:=by kernel_rfl)(hb:fn.body=some c:=by rfl)(hnt:fn.ntmps=nt:=by rfl)(hn:Nat.ble 1 fn.ntmps=true:=by rfl):aG P f #[v0] v:=⟨hp,fun w=>cB1 nt hf (aX.nil w) (h w) hb hnt hn⟩
def Qg{v0:Value}(nt:Nat)(hf:P.funcs[f]? =some fn)(h:∀w:World,aX (Bs.of w) L w->At (Bs.of w) ⟨nt,[(0,v0)],L⟩ (c.wp P (bodyPost P fn fun e w'=>∃x,e= .returned (res x)∧aX (Bs.of w) (new x) w')))(hp:iP P f=true:=by kernel_rfl)(hb:fn.body=some c:=by rfl)(hnt:fn.ntmps=nt:=by rfl)(hn:Nat.ble 1 fn.ntmps=true:=by rfl):bQ P f L [v0] X res new:=⟨hp,fun w hL0=>cB1 nt hf hL0 (h w hL0) hb hnt hn⟩
def nX{v0 v1:Value}(nt:Nat)(hf:P.funcs[f]? =some fn)(h:∀w:World,At (Bs.of w) ⟨nt,[(0,v0),(1,v1)],[]⟩ (c.wp P (bodyPost P fn fun e w'=>e= .returned v∧dV w.heap.size w w')))(hp:iP P f=true:=by kernel_rfl)(hb:fn.body=some c:=by rfl)(hnt:fn.ntmps=nt:=by rfl)(hn:Nat.ble 2 fn.ntmps=true:=by rfl):aG P f #[v0,v1] v:=⟨hp,fun w=>cB2 nt hf (aX.nil w) (h w) hb hnt hn⟩
def sB2{v0 v1:Value}(nt:Nat)(hf:P.funcs[f]? =some fn)(h:∀w:World,aX (Bs.of w) L w->At (Bs.of w) ⟨nt,[(0,v0),(1,v1)],L⟩ (c.wp P (bodyPost P fn fun e w'=>∃x,e= .returned (res x)∧aX (Bs.of w) (new x) w')))(hp:iP P f=true:=by kernel_rfl)(hb:fn.body=some c:=by rfl)(hnt:fn.ntmps=nt:=by rfl)(hn:Nat.ble 2 fn.ntmps=true:=by rfl):bQ P f L [v0,v1] X res new:=⟨hp,fun w hL0=>cB2 nt hf hL0 (h w hL0) hb hnt hn⟩
def pB3{v0 v1 v2:Value}(nt:Nat)(hf:P.funcs[f]? =some fn)(h:∀w:World,At (Bs.of w) ⟨nt,[(0,v0),(1,v1),(2,v2)],[]⟩ (c.wp P (bodyPost P fn fun e w'=>e= .returned v∧dV w.heap.size w w')))(hp:iP P f=true:=by kernel_rfl)(hb:fn.body=some c:=by rfl)(hnt:fn.ntmps=nt:=by rfl)(hn:Nat.ble 3 fn.ntmps=true:=by rfl):aG P f #[v0,v1,v2] v:=⟨hp,fun w=>cB3 nt hf (aX.nil w) (h w) hb hnt hn⟩
def sB3{v0 v1 v2:Value}(nt:Nat)(hf:P.funcs[f]? =some fn)(h:∀w:World,aX (Bs.of w) L w->At (Bs.of w) ⟨nt,[(0,v0),(1,v1),(2,v2)],L⟩ (c.wp P (bodyPost P fn fun e w'=>∃x,e= .returned (res x)∧aX (Bs.of w) (new x) w')))(hp:iP P f=true:=by kernel_rfl)(hb:fn.body=some c:=by rfl)(hnt:fn.ntmps=nt:=by rfl)(hn:Nat.ble 3 fn.ntmps=true:=by rfl):bQ P f L [v0,v1,v2] X res new:=⟨hp,fun w hL0=>cB3 nt hf hL0 (h w hL0) hb hnt hn⟩
def pB4{v0 v1 v2 v3:Value}(nt:Nat)(hf:P.funcs[f]? =some fn)(h:∀w:World,At (Bs.of w) ⟨nt,[(0,v0),(1,v1),(2,v2),(3,v3)],[]⟩ (c.wp P (bodyPost P fn fun e w'=>e= .returned v∧dV w.heap.size w w')))(hp:iP P f=true:=by kernel_rfl)(hb:fn.body=some c:=by rfl)(hnt:fn.ntmps=nt:=by rfl)(hn:Nat.ble 4 fn.ntmps=true:=by rfl):aG P f #[v0,v1,v2,v3] v:=⟨hp,fun w=>cB4 nt hf (aX.nil w) (h w) hb hnt hn⟩
def pB5{v0 v1 v2 v3 v4:Value}(nt:Nat)(hf:P.funcs[f]? =some fn)(h:∀w:World,At (Bs.of w) ⟨nt,[(0,v0),(1,v1),(2,v2),(3,v3),(4,v4)],[]⟩ (c.wp P (bodyPost P fn fun e w'=>e= .returned v∧dV w.heap.size w w')))(hp:iP P f=true:=by kernel_rfl)(hb:fn.body=some c:=by rfl)(hnt:fn.ntmps=nt:=by rfl)(hn:Nat.ble 5 fn.ntmps=true:=by rfl):aG P f #[v0,v1,v2,v3,v4] v:=⟨hp,fun w=>cB5 nt hf (aX.nil w) (h w) hb hnt hn⟩
end
def pR{L:List aF}{k:Nat}{b:aF}(h:L[k]? =some b:=by rfl):∃b',L[k]? =some b'∧b.le b':=⟨_,h,aF.le_refl _⟩
def pS{L:List aF}{k:Nat}{base:Option Nat}{e:TypeId}{cs:List Value}{n:Nat}{o:Bool}(h:L[k]? =some ⟨base,e,cs,n,o⟩:=by rfl):∃b',L[k]? =some b'∧aF.le ⟨base,e,cs,n,false⟩ b':=⟨_,h,iC⟩
section
variable{P:Program}{B:Bs}{fn:Func}{R:Ending->World->Prop}{s:St}
def E0{w0:World}{d:Nat}{v v':Value}(h:Ending.returned v= .returned v')(hfn:fn.results= #[.tmp d]:=by rfl)(hl:look s.t d=some v:=by rfl):At (Bs.of w0) s (bodyPost P fn (fun e w'=>e= .returned v'∧dV w0.heap.size w0 w') .ret):=E1 (fun w hL=>⟨h,hL.below⟩) hfn hl
def Ec2{p T:Nat}{b:aF}{i:TI}{a0 a1:Value}(k:Nat)(hR:∀w,aX B s.L w->R (.returned (.agg #[a0,a1])) w)(hfn:fn.results= #[.cell p T]:=by rfl)(hk:s.L[k]? =some b:=by rfl)(hx:look s.t p=some (b.at 0):=by rfl)(hi:dH P T i=true:=by exact xm _)(hvs:b.cs.take i.size=[a0,a1]:=by rfl)(hn:Nat.beq i.size 2=true:=by rfl)(ha:i.agg=true:=by rfl)(hD:B.D=[]:=by first|rfl|assumption):At B s (bodyPost P fn R .ret):=aH hfn (bn k hk hx hi hvs (Nat.eq_of_beq_eq_true hn).symm J5 qW) hR hD
def Ed2{p T:Nat}{b:aF}{i:TI}{a0 a1 v':Value}{w0:World}(k:Nat)(h:Ending.returned (.agg #[a0,a1])= .returned v')(hfn:fn.results= #[.cell p T]:=by rfl)(hk:s.L[k]? =some b:=by rfl)(hx:look s.t p=some (b.at 0):=by rfl)(hi:dH P T i=true:=by exact xm _)(hvs:b.cs.take i.size=[a0,a1]:=by rfl)(hn:Nat.beq i.size 2=true:=by rfl)(ha:i.agg=true:=by rfl):At (Bs.of w0) s (bodyPost P fn (fun e w'=>e= .returned v'∧dV w0.heap.size w0 w') .ret):=Ec2 k (fun w hL=>⟨h,hL.below⟩) hfn hk hx hi hvs hn ha
def Ec4{p T:Nat}{b:aF}{i:TI}{a0 a1 a2 a3:Value}(k:Nat)(hR:∀w,aX B s.L w->R (.returned (.agg #[a0,a1,a2,a3])) w)(hfn:fn.results= #[.cell p T]:=by rfl)(hk:s.L[k]? =some b:=by rfl)(hx:look s.t p=some (b.at 0):=by rfl)(hi:dH P T i=true:=by exact xm _)(hvs:b.cs.take i.size=[a0,a1,a2,a3]:=by rfl)(hn:Nat.beq i.size 4=true:=by rfl)(ha:i.agg=true:=by rfl)(hD:B.D=[]:=by first|rfl|assumption):At B s (bodyPost P fn R .ret):=aH hfn (bn k hk hx hi hvs (Nat.eq_of_beq_eq_true hn).symm J5 qW) hR hD
def Yd{p T:Nat}{b:aF}{i:TI}{a0 a1 a2 a3 v':Value}{w0:World}(k:Nat)(h:Ending.returned (.agg #[a0,a1,a2,a3])= .returned v')(hfn:fn.results= #[.cell p T]:=by rfl)(hk:s.L[k]? =some b:=by rfl)(hx:look s.t p=some (b.at 0):=by rfl)(hi:dH P T i=true:=by exact xm _)(hvs:b.cs.take i.size=[a0,a1,a2,a3]:=by rfl)(hn:Nat.beq i.size 4=true:=by rfl)(ha:i.agg=true:=by rfl):At (Bs.of w0) s (bodyPost P fn (fun e w'=>e= .returned v'∧dV w0.heap.size w0 w') .ret):=Ec4 k (fun w hL=>⟨h,hL.below⟩) hfn hk hx hi hvs hn ha
def Ec9{p T:Nat}{b:aF}{i:TI}{a0 a1 a2 a3 a4 a5 a6 a7 a8:Value}(k:Nat)(hR:∀w,aX B s.L w->R (.returned (.agg #[a0,a1,a2,a3,a4,a5,a6,a7,a8])) w)(hfn:fn.results= #[.cell p T]:=by rfl)(hk:s.L[k]? =some b:=by rfl)(hx:look s.t p=some (b.at 0):=by rfl)(hi:dH P T i=true:=by exact xm _)(hvs:b.cs.take i.size=[a0,a1,a2,a3,a4,a5,a6,a7,a8]:=by rfl)(hn:Nat.beq i.size 9=true:=by rfl)(ha:i.agg=true:=by rfl)(hD:B.D=[]:=by first|rfl|assumption):At B s (bodyPost P fn R .ret):=aH hfn (bn k hk hx hi hvs (Nat.eq_of_beq_eq_true hn).symm J5 qW) hR hD
def Ed9{p T:Nat}{b:aF}{i:TI}{a0 a1 a2 a3 a4 a5 a6 a7 a8 v':Value}{w0:World}(k:Nat)(h:Ending.returned (.agg #[a0,a1,a2,a3,a4,a5,a6,a7,a8])= .returned v')(hfn:fn.results= #[.cell p T]:=by rfl)(hk:s.L[k]? =some b:=by rfl)(hx:look s.t p=some (b.at 0):=by rfl)(hi:dH P T i=true:=by exact xm _)(hvs:b.cs.take i.size=[a0,a1,a2,a3,a4,a5,a6,a7,a8]:=by rfl)(hn:Nat.beq i.size 9=true:=by rfl)(ha:i.agg=true:=by rfl):At (Bs.of w0) s (bodyPost P fn (fun e w'=>e= .returned v'∧dV w0.heap.size w0 w') .ret):=Ec9 k (fun w hL=>⟨h,hL.below⟩) hfn hk hx hi hvs hn ha
def qvB{p T:Nat}{b:aF}{i:TI}{a0 a1 a2 a3 a4 a5 a6 a7 a8 a9:Value}(k:Nat)(hR:∀w,aX B s.L w->R (.returned (.agg #[a0,a1,a2,a3,a4,a5,a6,a7,a8,a9])) w)(hfn:fn.results= #[.cell p T]:=by rfl)(hk:s.L[k]? =some b:=by rfl)(hx:look s.t p=some (b.at 0):=by rfl)(hi:dH P T i=true:=by exact xm _)(hvs:b.cs.take i.size=[a0,a1,a2,a3,a4,a5,a6,a7,a8,a9]:=by rfl)(hn:Nat.beq i.size 10=true:=by rfl)(ha:i.agg=true:=by rfl)(hD:B.D=[]:=by first|rfl|assumption):At B s (bodyPost P fn R .ret):=aH hfn (bn k hk hx hi hvs (Nat.eq_of_beq_eq_true hn).symm J5 qW) hR hD
def qxY{p T:Nat}{b:aF}{i:TI}{a0 a1 a2 a3 a4 a5 a6 a7 a8 a9 v':Value}{w0:World}(k:Nat)(h:Ending.returned (.agg #[a0,a1,a2,a3,a4,a5,a6,a7,a8,a9])= .returned v')(hfn:fn.results= #[.cell p T]:=by rfl)(hk:s.L[k]? =some b:=by rfl)(hx:look s.t p=some (b.at 0):=by rfl)(hi:dH P T i=true:=by exact xm _)(hvs:b.cs.take i.size=[a0,a1,a2,a3,a4,a5,a6,a7,a8,a9]:=by rfl)(hn:Nat.beq i.size 10=true:=by rfl)(ha:i.agg=true:=by rfl):At (Bs.of w0) s (bodyPost P fn (fun e w'=>e= .returned v'∧dV w0.heap.size w0 w') .ret):=qvB k (fun w hL=>⟨h,hL.below⟩) hfn hk hx hi hvs hn ha
def qxZ{p T:Nat}{b:aF}{i:TI}{a0 a1 a2 a3 a4 a5 a6 a7 a8 a9 a10 a11:Value}(k:Nat)(hR:∀w,aX B s.L w->R (.returned (.agg #[a0,a1,a2,a3,a4,a5,a6,a7,a8,a9,a10,a11])) w)(hfn:fn.results= #[.cell p T]:=by rfl)(hk:s.L[k]? =some b:=by rfl)(hx:look s.t p=some (b.at 0):=by rfl)(hi:dH P T i=true:=by exact xm _)(hvs:b.cs.take i.size=[a0,a1,a2,a3,a4,a5,a6,a7,a8,a9,a10,a11]:=by rfl)(hn:Nat.beq i.size 12=true:=by rfl)(ha:i.agg=true:=by rfl)(hD:B.D=[]:=by first|rfl|assumption):At B s (bodyPost P fn R .ret):=aH hfn (bn k hk hx hi hvs (Nat.eq_of_beq_eq_true hn).symm J5 qW) hR hD
def Ue{p T:Nat}{b:aF}{i:TI}{a0 a1 a2 a3 a4 a5 a6 a7 a8 a9 a10 a11 v':Value}{w0:World}(k:Nat)(h:Ending.returned (.agg #[a0,a1,a2,a3,a4,a5,a6,a7,a8,a9,a10,a11])= .returned v')(hfn:fn.results= #[.cell p T]:=by rfl)(hk:s.L[k]? =some b:=by rfl)(hx:look s.t p=some (b.at 0):=by rfl)(hi:dH P T i=true:=by exact xm _)(hvs:b.cs.take i.size=[a0,a1,a2,a3,a4,a5,a6,a7,a8,a9,a10,a11]:=by rfl)(hn:Nat.beq i.size 12=true:=by rfl)(ha:i.agg=true:=by rfl):At (Bs.of w0) s (bodyPost P fn (fun e w'=>e= .returned v'∧dV w0.heap.size w0 w') .ret):=qxZ k (fun w hL=>⟨h,hL.below⟩) hfn hk hx hi hvs hn ha
def qx0{p T:Nat}{b:aF}{i:TI}{a0 a1 a2 a3 a4 a5 a6 a7 a8 a9 a10 a11 a12 a13 a14 a15:Value}(k:Nat)(hR:∀w,aX B s.L w->R (.returned (.agg #[a0,a1,a2,a3,a4,a5,a6,a7,a8,a9,a10,a11,a12,a13,a14,a15])) w)(hfn:fn.results= #[.cell p T]:=by rfl)(hk:s.L[k]? =some b:=by rfl)(hx:look s.t p=some (b.at 0):=by rfl)(hi:dH P T i=true:=by exact xm _)(hvs:b.cs.take i.size=[a0,a1,a2,a3,a4,a5,a6,a7,a8,a9,a10,a11,a12,a13,a14,a15]:=by rfl)(hn:Nat.beq i.size 16=true:=by rfl)(ha:i.agg=true:=by rfl)(hD:B.D=[]:=by first|rfl|assumption):At B s (bodyPost P fn R .ret):=aH hfn (bn k hk hx hi hvs (Nat.eq_of_beq_eq_true hn).symm J5 qW) hR hD
def qtc{p T:Nat}{b:aF}{i:TI}{a0 a1 a2 a3 a4 a5 a6 a7 a8 a9 a10 a11 a12 a13 a14 a15 v':Value}{w0:World}(k:Nat)(h:Ending.returned (.agg #[a0,a1,a2,a3,a4,a5,a6,a7,a8,a9,a10,a11,a12,a13,a14,a15])= .returned v')(hfn:fn.results= #[.cell p T]:=by rfl)(hk:s.L[k]? =some b:=by rfl)(hx:look s.t p=some (b.at 0):=by rfl)(hi:dH P T i=true:=by exact xm _)(hvs:b.cs.take i.size=[a0,a1,a2,a3,a4,a5,a6,a7,a8,a9,a10,a11,a12,a13,a14,a15]:=by rfl)(hn:Nat.beq i.size 16=true:=by rfl)(ha:i.agg=true:=by rfl):At (Bs.of w0) s (bodyPost P fn (fun e w'=>e= .returned v'∧dV w0.heap.size w0 w') .ret):=qx0 k (fun w hL=>⟨h,hL.below⟩) hfn hk hx hi hvs hn ha
def qx1{p T:Nat}{b:aF}{i:TI}{a0 a1 a2 a3 a4 a5 a6 a7 a8 a9 a10 a11 a12 a13 a14 a15 a16 a17 a18 a19:Value}(k:Nat)(hR:∀w,aX B s.L w->R (.returned (.agg #[a0,a1,a2,a3,a4,a5,a6,a7,a8,a9,a10,a11,a12,a13,a14,a15,a16,a17,a18,a19])) w)(hfn:fn.results= #[.cell p T]:=by rfl)(hk:s.L[k]? =some b:=by rfl)(hx:look s.t p=some (b.at 0):=by rfl)(hi:dH P T i=true:=by exact xm _)(hvs:b.cs.take i.size=[a0,a1,a2,a3,a4,a5,a6,a7,a8,a9,a10,a11,a12,a13,a14,a15,a16,a17,a18,a19]:=by rfl)(hn:Nat.beq i.size 20=true:=by rfl)(ha:i.agg=true:=by rfl)(hD:B.D=[]:=by first|rfl|assumption):At B s (bodyPost P fn R .ret):=aH hfn (bn k hk hx hi hvs (Nat.eq_of_beq_eq_true hn).symm J5 qW) hR hD
def qx2{p T:Nat}{b:aF}{i:TI}{a0 a1 a2 a3 a4 a5 a6 a7 a8 a9 a10 a11 a12 a13 a14 a15 a16 a17 a18 a19 v':Value}{w0:World}(k:Nat)(h:Ending.returned (.agg #[a0,a1,a2,a3,a4,a5,a6,a7,a8,a9,a10,a11,a12,a13,a14,a15,a16,a17,a18,a19])= .returned v')(hfn:fn.results= #[.cell p T]:=by rfl)(hk:s.L[k]? =some b:=by rfl)(hx:look s.t p=some (b.at 0):=by rfl)(hi:dH P T i=true:=by exact xm _)(hvs:b.cs.take i.size=[a0,a1,a2,a3,a4,a5,a6,a7,a8,a9,a10,a11,a12,a13,a14,a15,a16,a17,a18,a19]:=by rfl)(hn:Nat.beq i.size 20=true:=by rfl)(ha:i.agg=true:=by rfl):At (Bs.of w0) s (bodyPost P fn (fun e w'=>e= .returned v'∧dV w0.heap.size w0 w') .ret):=qx1 k (fun w hL=>⟨h,hL.below⟩) hfn hk hx hi hvs hn ha
def qx3{p T:Nat}{b:aF}{i:TI}{a0 a1 a2 a3 a4 a5 a6 a7 a8 a9 a10 a11 a12 a13 a14 a15 a16 a17 a18 a19 a20 a21 a22 a23 a24 a25 a26 a27 a28 a29 a30 a31 a32 a33 a34 a35 a36 a37:Value}(k:Nat)(hR:∀w,aX B s.L w->R (.returned (.agg #[a0,a1,a2,a3,a4,a5,a6,a7,a8,a9,a10,a11,a12,a13,a14,a15,a16,a17,a18,a19,a20,a21,a22,a23,a24,a25,a26,a27,a28,a29,a30,a31,a32,a33,a34,a35,a36,a37])) w)(hfn:fn.results= #[.cell p T]:=by rfl)(hk:s.L[k]? =some b:=by rfl)(hx:look s.t p=some (b.at 0):=by rfl)(hi:dH P T i=true:=by exact xm _)(hvs:b.cs.take i.size=[a0,a1,a2,a3,a4,a5,a6,a7,a8,a9,a10,a11,a12,a13,a14,a15,a16,a17,a18,a19,a20,a21,a22,a23,a24,a25,a26,a27,a28,a29,a30,a31,a32,a33,a34,a35,a36,a37]:=by rfl)(hn:Nat.beq i.size 38=true:=by rfl)(ha:i.agg=true:=by rfl)(hD:B.D=[]:=by first|rfl|assumption):At B s (bodyPost P fn R .ret):=aH hfn (bn k hk hx hi hvs (Nat.eq_of_beq_eq_true hn).symm J5 qW) hR hD
def qx4{p T:Nat}{b:aF}{i:TI}{a0 a1 a2 a3 a4 a5 a6 a7 a8 a9 a10 a11 a12 a13 a14 a15 a16 a17 a18 a19 a20 a21 a22 a23 a24 a25 a26 a27 a28 a29 a30 a31 a32 a33 a34 a35 a36 a37 v':Value}{w0:World}(k:Nat)(h:Ending.returned (.agg #[a0,a1,a2,a3,a4,a5,a6,a7,a8,a9,a10,a11,a12,a13,a14,a15,a16,a17,a18,a19,a20,a21,a22,a23,a24,a25,a26,a27,a28,a29,a30,a31,a32,a33,a34,a35,a36,a37])= .returned v')(hfn:fn.results= #[.cell p T]:=by rfl)(hk:s.L[k]? =some b:=by rfl)(hx:look s.t p=some (b.at 0):=by rfl)(hi:dH P T i=true:=by exact xm _)(hvs:b.cs.take i.size=[a0,a1,a2,a3,a4,a5,a6,a7,a8,a9,a10,a11,a12,a13,a14,a15,a16,a17,a18,a19,a20,a21,a22,a23,a24,a25,a26,a27,a28,a29,a30,a31,a32,a33,a34,a35,a36,a37]:=by rfl)(hn:Nat.beq i.size 38=true:=by rfl)(ha:i.agg=true:=by rfl):At (Bs.of w0) s (bodyPost P fn (fun e w'=>e= .returned v'∧dV w0.heap.size w0 w') .ret):=qx3 k (fun w hL=>⟨h,hL.below⟩) hfn hk hx hi hvs hn ha
end
def Ni{B:Bs}{nt:Nat}{t:List (Nat×Value)}{L:List aF}{X:Type}{T:X->List (Nat×Value)}{LL:X->List aF}(z:X)(ks:List Nat)(lk:jL t (T z):=by repeat (first|exact trivial|refine⟨rfl,?_⟩))(hp:jf L (ks.map some) (LL z):=by repeat (first|exact trivial|refine⟨⟨_,rfl,aF.le_refl _⟩,?_⟩))(hl:(ks.map some).length=(LL z).length:=by rfl)(ha:lL (ks.map some) ((LL z).map (·.own))=true:=by rfl):At B ⟨nt,t,L⟩ (fun a w=>∃z,kK B ⟨nt,T z,LL z⟩ a w):=Cb z lk (ay _ hp hl ha)
def vV:List Oper->Nat->Oper
 |[],_=>default
 |x::_,0=>x
 |_::l,n+1=>vV l n
theorem Oj:∀(l:List Oper) (i:Nat),vV l i=l.toArray.getD i default
 |[],i=>by simp[vV]
 |x::l,0=>by simp[vV]
 |x::l,n+1=>by have:=Oj l n;simp[vV] at this ⊢;exact this
def Rn{l l':List Oper}{perm:List Nat}(h:perm.map (vV l)=l'):perm.map (fun i=>l.toArray.getD i default)=l':=by rw[<-h];exact List.map_congr_left fun i _=>(Oj l i).symm
section
variable{P:Program}{B:Bs}{s:St}{Q:Exit->Act->World->Prop}{id:Nat}{l l':List Oper}
def Dp(bl perm:List Nat)(h:aU P bl l.toArray l' s (fun s'=>At B s' (Q .normal)))(hm:P.follows .mixedOrders=true:=by exact mixed)(hc:xB bl l.toArray perm=true:=by kernel_rfl)(hl:perm.map (vV l)=l':=by first|(dsimp only[List.map,vV];done)|(dsimp only[List.map,vV];exact rfl))(hf:MQ bl l.toArray s=true:=by kernel_rfl):At B s ((Code.region id l.toArray true).wp P Q):=MS bl perm hm hc (Rn hl) hf h
def Dq(bl perm:List Nat)(h:aU P bl l.toArray l' s (fun s'=>At B s' (Q .normal)))(hm:P.follows .mixedOrders=true:=by exact mixed)(hc:BI bl l.toArray perm=true:=by kernel_rfl)(hl:perm.map (vV l)=l':=by first|(dsimp only[List.map,vV];done)|(dsimp only[List.map,vV];exact rfl)):At B s ((Code.region id l.toArray true).wp P Q):=DT bl perm hm hc (Rn hl) h
def Di(bl:List Nat)(h:aU P bl l.toArray l s (fun s'=>At B s' (Q .normal)))(hm:P.follows .mixedOrders=true:=by exact mixed)(hc:xB bl l.toArray (List.range l.length)=true:=by kernel_rfl)(hf:MQ bl l.toArray s=true:=by kernel_rfl):At B s ((Code.region id l.toArray true).wp P Q):=Ri bl hm hc hf h
end
section
variable{P:Program}{ops:Array Oper}{X:Act->World->Prop}{B:Bs}{n:Nat}{R:List Nat}
def Nt{nt:Nat}{t:List (Nat×Value)}{L:List aF}{l l':List Oper}(i:Nat)(h:aU P [] l.toArray l' ⟨nt,t,[]⟩ (fun s'=>yh P l.toArray X B n (R.filter (· !=i)) ⟨nt,s'.t,L⟩))(hc:(Region.noSelect l.toArray&&zG l.toArray (Cc l.toArray.size R) [i])=true:=by kernel_rfl)(hl:[vV l i]=l':=by first|(dsimp only[vV];done)|(dsimp only[vV];exact rfl)):yh P l.toArray X B (n+1) R ⟨nt,t,L⟩:=qoD i hc (by rw[<-hl,Oj]) h
def AY{s:St}{o:Oper}(i:Nat)(h:aU P [1000000] ops [o] s (fun s'=>yh P ops X B n (R.filter (· !=i)) s'))(h1:Region.ready .any ops (Cc ops.size R)=[i]:=by kernel_rfl)(ho:ops[i]? =some o:=by rfl):yh P ops X B (n+1) R s:=bI [i] h1 rfl ⟨⟨_,ho,h⟩,trivial⟩
def Nw{nt:Nat}{t:List (Nat×Value)}{L:List aF}{Z:Type}{T:Z->List (Nat×Value)}{LL:Z->List aF}(h:∀z,yh P ops X B n R ⟨nt,T z,LL z⟩)(z:Z)(ks:List Nat)(lk:jL t (T z):=by repeat (first|exact trivial|refine⟨rfl,?_⟩))(hp:jf L (ks.map some) (LL z):=by repeat (first|exact trivial|refine⟨⟨_,rfl,aF.le_refl _⟩,?_⟩))(hl:(ks.map some).length=(LL z).length:=by rfl)(ha:lL (ks.map some) ((LL z).map (·.own))=true:=by rfl):yh P ops X B n R ⟨nt,t,L⟩:=qoE h z lk (ay _ hp hl ha)
end
end Go.Via
namespace Go.Via
variable[Mo]
open Go Go.RowKit Go.Sort Go.Proofs
def aX.rowMod{B:Bs}{w w':World}{L:List aF}(h:aX B L w){k:Nat}{b:aF}(hk:L[k]? =some b)(ho:b.own=true){g:Nat}(hg:b.base=some g)(hn0:b.n≠0)(f:Array Value->Array Value)(cs':List Value)
 (hf:∀cur:Array Value,cur.size=b.n->cur.toList.take b.cs.length=b.cs->(f cur).size=b.n∧(f cur).toList.take cs'.length=cs')
 (h1:w'.os=w.os)(h2:w'.tape=w.tape)(h3:w'.output=w.output)(h4:w.heap.size<=w'.heap.size)(h5:∀i,i<w.heap.size->i≠g->w'.heap[i]? =w.heap[i]?)
 (h6:∀cur:Array Value,w.heap[g]? =some (.cells cur b.e (0,0))->w'.heap[g]? =some (.cells (f cur) b.e (0,0)))(h7:w.drawn<=w'.drawn:=by first|exact Nat.le_refl _|exact Nat.le_add_right _ _):aX B (L.set k {b with cs:=cs'}) w':=by
 obtain⟨cur,⟨e',fr,a1,a2,_⟩,a3,a4⟩:=((h.blk k b hk).1 g hg).cells (.inl hn0);obtain⟨rfl,rfl⟩:=a2 ho;obtain⟨b1,b2⟩:=hf cur a3 a4;have hs:=h.set hk ho hg (f cur) cs' b1 b2;have hh:=setRow_heap w g cur (f cur) b.e (0,0) a1;have hsz:(w.setRow g (f cur)).heap.size=w.heap.size:=bz
 refine hs.same ⟨h1,h2,h3,by rw[hsz];exact h4,fun i hi=>?_,fun _=>h7⟩
 rw[hsz] at hi
 by_cases e:i=g
 ·subst e;rw[h6 cur a1,hh]
 ·rw[h5 i hi e,setRow_other w g i _ e]
def SB(l:List Gg):List Value:=l.map fun s=> .string (lm s)
theorem qeq(l:List Gg):(SB l).length=l.length:=by simp[SB]
abbrev SBk(b:Option Nat)(l:List Gg)(n:Nat):aF:=⟨b,9,SB l,n,true⟩
def aX.loose{B:Bs}{w:World}{L:List aF}(h:aX B L w){k:Nat}{b:aF}(hk:L[k]? =some b)(ho:b.own=true){g:Nat}(hg:b.base=some g)(hn0:b.n≠0)(j:Nat):w.frozen? ⟨g,j,none⟩=false:=by
 obtain⟨cur,⟨e',fr,a1,a2,_⟩,a3,a4⟩:=((h.blk k b hk).1 g hg).cells (.inl hn0);obtain⟨rfl,rfl⟩:=a2 ho;simp[World.frozen?,a1]
def WU{d:List Gg}{cur:Array Value}(h:d.length<=cur.size):(putCells encStr 0 d.toArray cur).size=cur.size∧(putCells encStr 0 d.toArray cur).toList.take (SB d).length=SB d:=by
 refine⟨by simp[putCells],?_⟩
 apply List.ext_getElem?
 intro i;rw[qeq,List.getElem?_take]
 split
 ·rename_i hi
  unfold SB;rw[List.getElem?_map,List.getElem?_eq_getElem hi,Array.getElem?_toList];unfold putCells;rw[Array.getElem?_mapIdx,Array.getElem?_eq_getElem ae];simp only[Option.map_some,Nat.zero_le,true_and,List.size_toArray,Nat.zero_add,hi,if_true,Nat.sub_zero];rw[getElem!_pos d.toArray i qfd]
  rfl
 ·rename_i hi
  unfold SB;rw[List.getElem?_map,List.getElem?_eq_none ae]
  rfl
def aX.putRow{B:Bs}{w:World}{L:List aF}(h:aX B L w){k g n m:Nat}{l l':List Gg}{os:Array Obj}(hk:L[k]? =some (SBk (some g) l n))(hl:l'.length<=n)(hn0:n≠0):
 aX B (L.set k (SBk (some g) l' n)) (grow (putRow encStr (Sort.ahead w m) g 0 l'.toArray) os):=by
 have hlt:=h.lt hk rfl;have e1:(grow (Go.Sort.putRow encStr (Sort.ahead w m) g 0 l'.toArray) os).heap=(w.heap.modify g (onCells (putCells encStr 0 l'.toArray)))++os:=rfl;refine h.rowMod hk rfl rfl hn0 (putCells encStr 0 l'.toArray) (SB l') (fun cur hc _=>by
 have hc':cur.size=n:=hc;obtain⟨p1,p2⟩:=WU (d:=l') (cur:=cur) ae;exact⟨p1.trans hc,p2⟩) rfl rfl rfl (by rw[e1];simp) (fun i hi hne=>?_) (fun cur hcur=>?_)
 ·exact qhH
 ·exact qhI
end Go.Via
namespace Go.Via
variable[Mo]
open Go Go.RowKit
section
variable{P:Program}{bl:List Nat}{ops:Array Oper}{K:St->Prop}{rest:List Oper}{nt:Nat}{t:List (Nat×Value)}{L:List aF}{d:Nat}{ty:TypeId}{pos:String}{af:Array Edge}{g:Option (Nat×Bool)}{x y:Operand}
def Ho{T e:Nat}{k:IntKind}{i:Int}{gg off len cap:Nat}{inf:TI}(off':Nat)(hT:P.underlying T=some (.slice e))(hinf:dH P e inf=true)(hd:Nat.blt d nt=true)(hg:az ops ⟨some d,.indexAddr T x y,ty,pos,af,g⟩ t=some true)
 (hx:ev t x=some (aB (some gg) off len cap))(hy:ev t y=some (.int k i))(h0:0<=i)(h1:i<len)(ho:off+i.toNat*inf.size=off')
 (h:aU P bl ops rest ⟨nt,(d,.pointer (some ⟨gg,off',none⟩))::t,L⟩ K):aU P bl ops (⟨some d,.indexAddr T x y,ty,pos,af,g⟩::rest) ⟨nt,t,L⟩ K:=
 eY hd hg rfl (fun B a w hrel=>by
 have he:P.elem T=e:=Eu;have h2:=hrel.ev hx;have h3:=hrel.ev hy;have:=run_indexAt_slice (P:=P) w T ⟨gg,off,none⟩ len cap k i JU;rw[if_pos ⟨h0,h1⟩,he,lF hinf w] at this;simp only[Result.andThen_ok,iI,ho] at this;unfold aB at h2;simp only[Option.map_some] at h2;simp[execOp,h2,h3,this]) h
end
end Go.Via
namespace Go.Via
variable[Mo]
open Go Go.RowKit
section
variable{P:Program}{bl:List Nat}{ops:Array Oper}{K:St->Prop}{rest:List Oper}{nt:Nat}{t:List (Nat×Value)}{L:List aF}{d:Nat}{ty:TypeId}{pos:String}{af:Array Edge}{g:Option (Nat×Bool)}{x y:Operand}
def qoF{T U e:Nat}{v:Option Addr}{n c:Nat}(hT:P.underlying T=some (.slice e))(hd:Nat.blt d nt=true)(hg:az ops ⟨some d,.binOp .eql T x y U,ty,pos,af,g⟩ t=some true)(hx:ev t x=some (.slice v n c))(hy:ev t y=some (.slice none 0 0))
 (h:aU P bl ops rest ⟨nt,(d,.bool v.isNone)::t,L⟩ K):aU P bl ops (⟨some d,.binOp .eql T x y U,ty,pos,af,g⟩::rest) ⟨nt,t,L⟩ K:=
 eY hd hg rfl (fun B a w hrel=>by
 have:=Lib.run_eql_slice_nil (P:=P) w T e v n c 0 0 hT;simp[execOp,hrel.ev hx,hrel.ev hy,eqGuard,this]) h
def DY{T U:Nat}{v:Option Addr}{te:TypeId}{r:Bool}(hT:P.underlying T=some (.pointer te))(hd:Nat.blt d nt=true)(hg:az ops ⟨some d,.binOp .neq T x y U,ty,pos,af,g⟩ t=some true)(hx:ev t x=some (.pointer v))(hy:ev t y=some (.pointer none))(hr:v.isSome=r)
 (h:aU P bl ops rest ⟨nt,(d,.bool r)::t,L⟩ K):aU P bl ops (⟨some d,.binOp .neq T x y U,ty,pos,af,g⟩::rest) ⟨nt,t,L⟩ K:=
 eY hd hg rfl (fun B a w hrel=>by
 subst hr;have h:∀d:Nat,(Op.equalIn (d+1) T (.pointer v) (.pointer none)).run P w= .ok v.isNone w:=fun d=>by
  cases v<;>simp[Op.equalIn,run_underlying hT]
 simp only[execOp,hrel.ev hx,hrel.ev hy,eqGuard,binOp];cases v<;>simp[Op.equal,Op.maxDepth,h 9999]) h
end
end Go.Via
