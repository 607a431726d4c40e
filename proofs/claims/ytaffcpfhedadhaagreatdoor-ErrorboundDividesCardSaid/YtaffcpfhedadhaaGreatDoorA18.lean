/-
  Part 18 (chapter 32): lemmas, walks. Each theorem states its own conditions.
-/
import GoSem.Core.World
import Derived.MapKept
import Derived.WalkKit
import Derived.WalkSpells
import Derived.WalkLawsBesides
import Derived.Deep.LoopGhost
import Derived.Deep.AppendSrc
import Derived.Laws.BytesArg
import Derived.Laws.CopyRow
import Derived.Laws.AppendOwn
import Derived.Deep.Upon
import Derived.Laws.Small
import Derived.WideKeyEntry
import Derived.Test.YtaffcpfhedadhaaGreatDoorA13
import Derived.Test.YtaffcpfhedadhaaGreatDoorA16
set_option linter.all false
set_option maxRecDepth 20000
set_option maxHeartbeats 20000000
section
variable{P Q:Prop}{T:Type}{R:T->Prop}
def Pz(h:P:=by subst hnt;exact h):=h
end
namespace Go.Via
variable[Mo]
open Go Go.RowKit
def Xk(l:List Oper):(List.range l.length).map (fun i=>l.toArray.getD i default)=l:=by
 apply List.ext_getElem
 ·simp
 ·intro i h1 h2;simp at h1;simp[h1]
def Ht{P:Program}{B:Bs}{s:St}{Q:Exit->Act->World->Prop}{id:Nat}{l:List Oper}(bl:List Nat)(hm:P.follows .mixedOrders=true)(hc:wC bl l.toArray (List.range l.length)=true)(hf:Ky bl l.toArray s=true)
 (h:aW P bl l.toArray l s (fun s'=>At B s' (Q .normal))):At B s ((Code.region id l.toArray true).wp P Q):=Um bl _ hm hc (Xk l) hf h
def LdG(P:Program)(L:List aH)(T g off:Nat)(k:Value->Prop):Prop:=∃(j:Nat) (b:aH) (i:TI) (u v:Value),L[j]? =some b∧b.base=some g∧dN P T i=true∧(b.cs.drop off).take i.size=[u]∧i.size=1∧(bif i.agg then some (Value.agg #[u]) else some u)=some v∧k v
section
variable{P:Program}{bl:List Nat}{ops:Array Oper}{K:St->Prop}{rest:List Oper}{nt:Nat}{t:List (Nat×Value)}{L:List aH}{d:Nat}{ty:TypeId}{pos:String}{af:Array Edge}{g:Option (Nat×Bool)}{x y:Operand}
def qrH{T gg off:Nat}(hd:Nat.blt d nt=true)(hg:aB ops ⟨some d,.load T x,ty,pos,af,g⟩ t=some true)(hx:ev t x=some (.pointer (some ⟨gg,off,none⟩)))(h:LdG P (blank bl L) T gg off (fun v=>aW P bl ops rest ⟨nt,(d,v)::t,L⟩ K)):
 aW P bl ops (⟨some d,.load T x,ty,pos,af,g⟩::rest) ⟨nt,t,L⟩ K:=by
 obtain⟨j,b,i,u,v,h1,h2,h3,h4,h5,h6,h7⟩:=h;exact bu j off [u] hd hg h1 (by rw[hx];unfold aH.at;rw[h2];rfl) h3 h4 h5.symm (by rw[h5];rfl) h6 h7
def Jm{T gg off:Nat}{k:Value->Prop}{b:aH}{i:TI}{u v:Value}(j:Nat)(h1:L[j]? =some b)(h2:b.base=some gg)(h3:dN P T i=true)(h4:(b.cs.drop off).take i.size=[u])(h5:i.size=1)(h6:(bif i.agg then some (Value.agg #[u]) else some u)=some v)(h7:k v):LdG P L T gg off k:=
 ⟨j,b,i,u,v,h1,h2,h3,h4,h5,h6,h7⟩
def fA{T:Nat}{j gg off fo fs:Nat}{i:TI}(hd:Nat.blt d nt=true)(hg:aB ops ⟨some d,.fieldAddr T x j,ty,pos,af,g⟩ t=some true)(hx:ev t x=some (.pointer (some ⟨gg,off,none⟩)))(hi:dN P T i=true)
 (hf:i.flds[j]? =some (fo,fs+1)){off':Nat}(ho:off+fo=off')(h:aW P bl ops rest ⟨nt,(d,.pointer (some ⟨gg,off',none⟩))::t,L⟩ K):
 aW P bl ops (⟨some d,.fieldAddr T x j,ty,pos,af,g⟩::rest) ⟨nt,t,L⟩ K:=by
 subst ho;refine fE hd hg rfl (v:= .pointer (some ⟨gg,off+fo,none⟩)) (fun B a w hr=>?_) h;have h2:=hr.ev (x:=x) (v:= .pointer (some ⟨gg,off,none⟩)) hx;obtain⟨fs',f,h3,h4,h5,h6⟩:=qde hi hf;simp only at h5 h6;have hsz:(sizeOf f.type).run P w= .ok (fs+1) w:=by
  cases hq:P.info? f.type with
  |none=>rw[hq] at h6;simp at h6
  |some inf=>rw[hq] at h6;simp at h6;simp[sizeOf,typeInfo,hq,h6]
 simp[execOp,h2,Instr.fieldAt,run_underlying h3,h4,Instr.sureAddr,fieldPlace,hsz,kG,h5]
end
def A1{P Q:Prop}(q:Q)(h:Q->P:=by
 intro q
 first
  |with_reducible exact QK q
  |with_reducible exact qpd q
  |with_reducible exact WG q
  |with_reducible exact qbb q
  |with_reducible exact qmt q
  |with_reducible exact qhT q
  |with_reducible exact qdk q
  |with_reducible exact qhU q
  |with_reducible exact qpi q
  |with_reducible exact qpe q
  |with_reducible exact qpf q
  |with_reducible exact qpg q
  |with_reducible exact qph q
  |(with_reducible refine qdj ?_ q);rfl
  |(with_reducible refine qdi ?_ q);rfl
  |exact qmy rfl rfl rfl q
  |exact KE rfl rfl rfl q
  |exact qrm rfl rfl rfl q
  |exact qdq rfl rfl rfl rfl rfl q
  |exact qhY rfl rfl rfl rfl q
  |exact qhX rfl rfl rfl rfl q
  |exact WH rfl rfl rfl q
  |exact qpb rfl rfl rfl q
  |exact qdr rfl rfl rfl rfl q
  |exact qds rfl rfl rfl rfl q
  |(refine qrH rfl rfl rfl ?_;first|exact Jm 0 rfl rfl (vY _) rfl rfl rfl q|exact Jm 1 rfl rfl (vY _) rfl rfl rfl q|exact Jm 2 rfl rfl (vY _) rfl rfl rfl q|exact Jm 3 rfl rfl (vY _) rfl rfl rfl q|exact Jm 4 rfl rfl (vY _) rfl rfl rfl q|exact Jm 5 rfl rfl (vY _) rfl rfl rfl q|exact Jm 6 rfl rfl (vY _) rfl rfl rfl q|exact Jm 7 rfl rfl (vY _) rfl rfl rfl q|exact Jm 8 rfl rfl (vY _) rfl rfl rfl q|exact Jm 9 rfl rfl (vY _) rfl rfl rfl q|exact Jm 10 rfl rfl (vY _) rfl rfl rfl q|exact Jm 11 rfl rfl (vY _) rfl rfl rfl q)
  |exact fA rfl rfl rfl (vY _) rfl rfl q
  |exact Xg rfl rfl rfl q
  |exact G8 (vs:=[_,_]) rfl rfl rfl rfl q
  |exact G8 (vs:=[_,_,_]) rfl rfl rfl rfl q
  |exact G8 (vs:=[_,_,_,_]) rfl rfl rfl rfl q
  |exact qmI (uA _) rfl rfl rfl q
  |exact qm4 (uA _) rfl rfl rfl q
  |exact qpc rfl (uT _) rfl rfl q):P:=h q
def A2{P Q:Prop}(q:Q)(h:Q->P:=by intro q;refine A1 ?_;exact A1 q):P:=h q
def A3{P Q:Prop}(q:Q)(h:Q->P:=by intro q;refine A1 ?_;exact A2 q):P:=h q
def A4{P Q:Prop}(q:Q)(h:Q->P:=by intro q;refine A2 ?_;exact A2 q):P:=h q
def A5{P Q:Prop}(q:Q)(h:Q->P:=by intro q;refine A2 ?_;exact A3 q):P:=h q
def A6{P Q:Prop}(q:Q)(h:Q->P:=by intro q;refine A3 ?_;exact A3 q):P:=h q
def A7{P Q:Prop}(q:Q)(h:Q->P:=by intro q;refine A3 ?_;exact A4 q):P:=h q
def A8{P Q:Prop}(q:Q)(h:Q->P:=by intro q;refine A4 ?_;exact A4 q):P:=h q
def A9{P Q:Prop}(q:Q)(h:Q->P:=by intro q;refine A4 ?_;exact A5 q):P:=h q
def lW{P Q:Prop}(q:Q)(h:Q->P:=by intro q;refine A5 ?_;exact A5 q):P:=h q
def qC{P Q:Prop}(q:Q)(h:Q->P:=by intro q;refine A5 ?_;exact A6 q):P:=h q
def nI{P Q:Prop}(q:Q)(h:Q->P:=by intro q;refine A6 ?_;exact A6 q):P:=h q
def FN{P Q:Prop}(q:Q)(h:Q->P:=by intro q;refine A6 ?_;exact A7 q):P:=h q
def EK{P Q:Prop}(q:Q)(h:Q->P:=by intro q;refine A7 ?_;exact A7 q):P:=h q
def Ed{P Q:Prop}(q:Q)(h:Q->P:=by intro q;refine A7 ?_;exact A8 q):P:=h q
def Rh{P Q:Prop}(q:Q)(h:Q->P:=by intro q;refine A8 ?_;exact A8 q):P:=h q
def Ri{P Q:Prop}(q:Q)(h:Q->P:=by intro q;refine A8 ?_;exact A9 q):P:=h q
def A18{P Q:Prop}(q:Q)(h:Q->P:=by intro q;refine A9 ?_;exact A9 q):P:=h q
def A19{P Q:Prop}(q:Q)(h:Q->P:=by intro q;refine A9 ?_;exact lW q):P:=h q
def A20{P Q:Prop}(q:Q)(h:Q->P:=by intro q;refine lW ?_;exact lW q):P:=h q
def A21{P Q:Prop}(q:Q)(h:Q->P:=by intro q;refine lW ?_;exact qC q):P:=h q
def A22{P Q:Prop}(q:Q)(h:Q->P:=by intro q;refine qC ?_;exact qC q):P:=h q
def A23{P Q:Prop}(q:Q)(h:Q->P:=by intro q;refine qC ?_;exact nI q):P:=h q
def A24{P Q:Prop}(q:Q)(h:Q->P:=by intro q;refine nI ?_;exact nI q):P:=h q
def A25{P Q:Prop}(q:Q)(h:Q->P:=by intro q;refine nI ?_;exact FN q):P:=h q
def A26{P Q:Prop}(q:Q)(h:Q->P:=by intro q;refine FN ?_;exact FN q):P:=h q
def A29{P Q:Prop}(q:Q)(h:Q->P:=by intro q;refine EK ?_;exact Ed q):P:=h q
def A30{P Q:Prop}(q:Q)(h:Q->P:=by intro q;refine Ed ?_;exact Ed q):P:=h q
section
variable{P:Program}{bl:List Nat}{ops:Array Oper}{K:St->Prop}{rest:List Oper}{nt:Nat}{t:List (Nat×Value)}{L:List aH}{d:Nat}{ty:TypeId}{pos:String}{af:Array Edge}{g:Option (Nat×Bool)}{x y:Operand}
def Ar{op:BinOp}{T U:Nat}{k:IntKind}{m n:Int}(r:Int)(h:aW P bl ops rest ⟨nt,(d,.int k r)::t,L⟩ K)(hd:Nat.blt d nt=true:=by rfl)(hg:aB ops ⟨some d,.binOp op T x y U,ty,pos,af,g⟩ t=some true:=by rfl)(hx:ev t x=some (.int k m):=by rfl)(hy:ev t y=some (.int k n):=by rfl)
 (hr:(match op with| .add=>some (k.wrap (m+n))| .sub=>some (k.wrap (m-n))| .mul=>some (k.wrap (m*n))|_=>none)=some r:=by first|exact congrArg some (wi ae ae ae)|exact congrArg some (c64 _ rfl ae)):
 aW P bl ops (⟨some d,.binOp op T x y U,ty,pos,af,g⟩::rest) ⟨nt,t,L⟩ K:=Y2 hd hg hx hy hr h
def Ix{T e:Nat}{k:IntKind}{i:Int}{b:aH}{off len cap:Nat}{inf:TI}(kk off':Nat)(h:aW P bl ops rest ⟨nt,(d,b.at off')::t,L⟩ K)(hT:P.underlying T=some (.slice e):=by exact uA _)(hinf:dN P e inf=true:=by exact vY _)(hd:Nat.blt d nt=true:=by rfl)(hg:aB ops ⟨some d,.indexAddr T x y,ty,pos,af,g⟩ t=some true:=by rfl)
 (hk:(blank bl L)[kk]? =some b:=by rfl)(hx:ev t x=some (aA b.base off len cap):=by rfl)(hy:ev t y=some (.int k i):=by rfl)(h0:0<=i:=by omega)(h1:i<len:=by omega)
 (hb:b.cs≠[]:=by first|exact List.cons_ne_nil _ _|exact Dn oz|exact Dn ae|exact tabC_ne ax|exact SB_ne ae|exact frmC_ne ax|exact(fun e=>by have h8:=hR.1;have h9:=congrArg List.length e;rw[PD] at h9;simp only[List.length_nil] at h9;first|omega|(rw[List.length_set] at h9;omega))|exact(fun e=>by have h9:=congrArg List.length e;rw[PD] at h9;simp only[List.length_nil] at h9;first|omega|(rw[List.length_set] at h9;omega)))
 (ho:off+i.toNat*inf.size=off':=by first|(show 0+Int.toNat _*1=_;omega)|(show 0+Int.toNat _*3=_;omega)|(show 0+Int.toNat _*4=_;omega)|(show 0+Int.toNat _*2=_;omega)|(show 0+Int.toNat _*7=_;omega)):aW P bl ops (⟨some d,.indexAddr T x y,ty,pos,af,g⟩::rest) ⟨nt,t,L⟩ K:=
 aG kk off' hT hinf hd hg hk hx hy h0 h1 hb ho h
def Gm{f:Nat}{args:List Operand}{ts:Array TypeId}{dst:Option Nat}{vs:List Value}{AC:List aH}{X:Type}{res:X->Value}{L1:X->List aH}(n:Nat)(ks is:List Nat)(mk:X->List aH)(hc:Du P f AC vs X res L1)
 (h:∀x,aW P bl ops rest (({nt:=nt,t:=t,L:=mk x}:St).put dst (res x)) K)
 (hM:JH bl=true:=by rfl)(hd:(match(generalizing:=false) dst with|some d=>Nat.blt d nt|none=>true)=true:=by rfl)
 (hg:aB ops ⟨dst,.call {callee:= .value (.func f),args:=args.toArray,argTypes:=ts},ty,pos,af,g⟩ t=some true:=by rfl)
 (hv:args.map (ev t)=vs.map some:=by rfl)(hn:ks.Nodup:=by decide)(hk:ks.map (fun k=>L[k]?)=(AC.take n).map some:=by rfl)(hA:((AC.take n).all fun b=>b.own&&(Nat.blt b.e dA||b.base.isSome))=true:=by rfl)
 (hp:jf L (is.map some) (AC.drop n):=by repeat (first|exact trivial|refine⟨⟨_,rfl,aH.le_refl _⟩,?_⟩))
 (hC:((AC.drop n).all fun b=> !b.own)=true:=by rfl)(hap:lI ((ks++is).map some) (AC.map (·.own))=true:=by rfl)
 (hlen:∀x,Nat.ble ks.length (L1 x).length=true:=by exact(fun _=>rfl))(hown:∀x,∀b∈L1 x,b.own=true∨∃a∈AC.take n,a.base=b.base∧b.base.isSome=true:=by exact(fun _=>Rf rfl))(hL:∀x,setG L ks (L1 x)=mk x:=by exact(fun _=>rfl)):
 aW P bl ops (⟨dst,.call {callee:= .value (.func f),args:=args.toArray,argTypes:=ts},ty,pos,af,g⟩::rest) ⟨nt,t,L⟩ K:=
 qen vs (A:=AC.take n) (C:=AC.drop n) ks is mk hM hd hg hv (by rw[List.take_append_drop];exact hc) hn hk hA hp hC (by rw[List.take_append_drop];exact hap) hlen hown hL h
def Pc{f:Nat}{args:List Operand}{ts:Array TypeId}{vs:List Value}{v:Value}(hc:aJ P f vs.toArray v)(h:aW P bl ops rest ⟨nt,(d,v)::t,L⟩ K)(hd:Nat.blt d nt=true:=by rfl)(hg:aB ops ⟨some d,.call {callee:= .value (.func f),args:=args.toArray,argTypes:=ts},ty,pos,af,g⟩ t=some true:=by rfl)
 (hv:args.map (ev t)=vs.map some:=by rfl):
 aW P bl ops (⟨some d,.call {callee:= .value (.func f),args:=args.toArray,argTypes:=ts},ty,pos,af,g⟩::rest) ⟨nt,t,L⟩ K:=dX vs hd hg hv hc h
def So{T:Nat}{i:TI}{gg e n:Nat}{cs:List Value}{v:Value}(k off:Nat)(L':List aH)(cs':List Value)(h:aW P bl ops rest ⟨nt,t,L'⟩ K)(hbl:GV bl=false:=by rfl)(hg:aB ops ⟨none,.store T x y,ty,pos,af,g⟩ t=some true:=by rfl)(hk:L[k]? =some ⟨some gg,e,cs,n,true⟩:=by rfl)(hx:ev t x=some (.pointer (some ⟨gg,off,none⟩)):=by rfl)
 (hy:ev t y=some v:=by rfl)(hi:dN P T i=true:=by exact vY _)(hsz:v.cells.size=i.size:=by rfl)(hfit:Nat.ble (off+i.size) cs.length=true:=by rfl)(h1:(v.cells.toList.all fun u=>u.oneCell')=true:=by rfl)(hcs:cs.take off++v.cells.toList++cs.drop (off+i.size)=cs':=by rfl)(hL:L.set k ⟨some gg,e,cs',n,true⟩=L':=by rfl)
 (hpos:Nat.blt 0 i.size=true:=by rfl):aW P bl ops (⟨none,.store T x y,ty,pos,af,g⟩::rest) ⟨nt,t,L⟩ K:=rC hbl k off L' cs' hg hk hx hy hi hsz hfit h1 hcs hL h hpos
def Bo{T:Nat}{v:Value}(cs:List Value)(n:Nat)(mk:Nat->List aH)(h:∀b,aW P bl ops rest ⟨nt,(d,.pointer (some ⟨b,0,none⟩))::t,mk b⟩ K)(hd:Nat.blt d nt=true:=by rfl)(hg:aB ops ⟨some d,.box T x,ty,pos,af,g⟩ t=some true:=by rfl)(hx:ev t x=some v:=by rfl)(hcs:v.cells.toList=cs:=by rfl)(hn:v.cells.size=n:=by rfl)
 (hL:∀b,L++[⟨some b,T,cs,n,true⟩]=mk b:=by exact(fun _=>rfl))(hT:Nat.blt T dA=true:=by rfl):aW P bl ops (⟨some d,.box T x,ty,pos,af,g⟩::rest) ⟨nt,t,L⟩ K:=qkS cs n mk hd hg hx hcs hn hL h hT
def Tn1{n:Nat}{listed:Array Bool}{s:St}{K:St->Prop}{o:Oper}(i:Nat)(h:aW P [1000000] ops [o] s (fun s'=>Ap P ops K n (listed.setIfInBounds i true) s'))(h1:Region.ready .any ops listed=[i]:=by kernel_rfl)(ho:ops[i]? =some o:=by rfl):Ap P ops K (n+1) listed s:=
 iZ [i] h1 rfl ⟨⟨_,ho,h⟩,trivial⟩
def Tn2{n:Nat}{listed:Array Bool}{s:St}{K:St->Prop}{o o':Oper}(i j:Nat)(h:aW P [1000000] ops [o] s (fun s'=>Ap P ops K n (listed.setIfInBounds i true) s'))(h':aW P [1000000] ops [o'] s (fun s'=>Ap P ops K n (listed.setIfInBounds j true) s'))
 (h1:Region.ready .any ops listed=[i,j]:=by kernel_rfl)(ho:ops[i]? =some o:=by rfl)(ho':ops[j]? =some o':=by rfl):Ap P ops K (n+1) listed s:=
 iZ [i,j] h1 rfl ⟨⟨_,ho,h⟩,⟨_,ho',h'⟩,trivial⟩
def Tn3{n:Nat}{listed:Array Bool}{s:St}{K:St->Prop}{o o' u:Oper}(i j k:Nat)(h:aW P [1000000] ops [o] s (fun s'=>Ap P ops K n (listed.setIfInBounds i true) s'))(h':aW P [1000000] ops [o'] s (fun s'=>Ap P ops K n (listed.setIfInBounds j true) s'))(hu:aW P [1000000] ops [u] s (fun s'=>Ap P ops K n (listed.setIfInBounds k true) s'))
 (h1:Region.ready .any ops listed=[i,j,k]:=by kernel_rfl)(ho:ops[i]? =some o:=by rfl)(ho':ops[j]? =some o':=by rfl)(ho2:ops[k]? =some u:=by rfl):Ap P ops K (n+1) listed s:=
 iZ [i,j,k] h1 rfl ⟨⟨_,ho,h⟩,⟨_,ho',h'⟩,⟨_,ho2,hu⟩,trivial⟩
end
section
variable{P:Program}{B:Bs}{Q:Exit->Act->World->Prop}{nt:Nat}{t:List (Nat×Value)}{L:List aH}{ι:Type}{c:Code}
abbrev SL:=List (Nat×Value)×List aH×Nat
def wM{L L':List aH}(ks:List (Option Nat))(hp:jf L ks L':=by repeat (first|exact trivial|refine⟨⟨_,rfl,aH.le_refl _⟩,?_⟩))(hl:ks.length=L'.length:=by rfl)(ha:lI ks (L'.map (·.own))=true:=by rfl):fF L L':=az ks hp hl ha
def aX.pk{B:Bs}{w:World}{L L':List aH}(h:aX B L w)(ks:List (Option Nat))(hp:jf L ks L':=by repeat (first|exact trivial|refine⟨⟨_,rfl,aH.le_refl _⟩,?_⟩))(hl:ks.length=L'.length:=by rfl)(ha:lI ks (L'.map (·.own))=true:=by rfl):aX B L' w:=h.picks ks hp hl ha
def fF.auto{L L':List aH}(h:fF L L':=by
 first
  |exact az [some 0] ⟨⟨_,rfl,aH.le_refl _⟩,trivial⟩ rfl rfl
  |exact az [some 0,some 1] ⟨⟨_,rfl,aH.le_refl _⟩,⟨_,rfl,aH.le_refl _⟩,trivial⟩ rfl rfl
  |exact az [some 0,some 1,some 2] ⟨⟨_,rfl,aH.le_refl _⟩,⟨_,rfl,aH.le_refl _⟩,⟨_,rfl,aH.le_refl _⟩,trivial⟩ rfl rfl
  |exact az [some 0,some 1,some 2,some 3] ⟨⟨_,rfl,aH.le_refl _⟩,⟨_,rfl,aH.le_refl _⟩,⟨_,rfl,aH.le_refl _⟩,⟨_,rfl,aH.le_refl _⟩,trivial⟩ rfl rfl
  |exact az [some 0,some 1,some 2,some 3,some 4] ⟨⟨_,rfl,aH.le_refl _⟩,⟨_,rfl,aH.le_refl _⟩,⟨_,rfl,aH.le_refl _⟩,⟨_,rfl,aH.le_refl _⟩,⟨_,rfl,aH.le_refl _⟩,trivial⟩ rfl rfl
  |exact az [some 0,some 1,some 2,some 3,some 4,some 5] ⟨⟨_,rfl,aH.le_refl _⟩,⟨_,rfl,aH.le_refl _⟩,⟨_,rfl,aH.le_refl _⟩,⟨_,rfl,aH.le_refl _⟩,⟨_,rfl,aH.le_refl _⟩,⟨_,rfl,aH.le_refl _⟩,trivial⟩ rfl rfl
  |exact az [some 0,some 1,some 2,some 3,some 4,some 5,some 6] ⟨⟨_,rfl,aH.le_refl _⟩,⟨_,rfl,aH.le_refl _⟩,⟨_,rfl,aH.le_refl _⟩,⟨_,rfl,aH.le_refl _⟩,⟨_,rfl,aH.le_refl _⟩,⟨_,rfl,aH.le_refl _⟩,⟨_,rfl,aH.le_refl _⟩,trivial⟩ rfl rfl
  |exact az [some 0,some 1,some 2,some 3,some 4,some 5,some 6,some 7] ⟨⟨_,rfl,aH.le_refl _⟩,⟨_,rfl,aH.le_refl _⟩,⟨_,rfl,aH.le_refl _⟩,⟨_,rfl,aH.le_refl _⟩,⟨_,rfl,aH.le_refl _⟩,⟨_,rfl,aH.le_refl _⟩,⟨_,rfl,aH.le_refl _⟩,⟨_,rfl,aH.le_refl _⟩,trivial⟩ rfl rfl
  |exact az [some 0,some 1,some 2,some 3,some 4,some 5,some 6,some 7,some 8] ⟨⟨_,rfl,aH.le_refl _⟩,⟨_,rfl,aH.le_refl _⟩,⟨_,rfl,aH.le_refl _⟩,⟨_,rfl,aH.le_refl _⟩,⟨_,rfl,aH.le_refl _⟩,⟨_,rfl,aH.le_refl _⟩,⟨_,rfl,aH.le_refl _⟩,⟨_,rfl,aH.le_refl _⟩,⟨_,rfl,aH.le_refl _⟩,trivial⟩ rfl rfl):fF L L':=h
def El(S:ι->SL)(i₀:ι)(round:∀i,At B ⟨nt,(S i).1,(S i).2.1⟩ (c.wp P (Exit.then (Nxt B nt (fun i=>(S i).1) (fun i=>(S i).2.1) (fun i=>(S i).2.2) i) Q)))
 (ht:jT t (S i₀).1:=by repeat (first|exact trivial|refine⟨rfl,?_⟩))(hL:fF L (S i₀).2.1:=by exact fF.refl _):At B ⟨nt,t,L⟩ ((Code.loop c).wp P Q):=qmK _ _ _ i₀ ht hL round
def Nl{T:ι->List (Nat×Value)}{LL:ι->List aH}{μ:ι->Nat}{i:ι}(j:ι)(hμ:μ j<μ i:=by first|(simp only[];omega)|(dsimp only;omega))
 (ht:jT t (T j):=by repeat (first|exact trivial|refine⟨rfl,?_⟩))(hL:fF L (LL j):=by exact fF.refl _):At B ⟨nt,t,L⟩ (Nxt B nt T LL μ i):=qpp j hμ ht hL
end
section
variable{P:Program}{f:Nat}{fn:Func}{c:Code}{B:Bs}{w:World}{R:Ending->World->Prop}{L:List aH}
def cB0(nt:Nat)(hf:P.funcs[f]? =some fn)(hL:aX B L w)(h:At B ⟨nt,[],L⟩ (c.wp P (bodyPost P fn R)))(hb:fn.body=some c:=by rfl)(hnt:fn.ntmps=nt:=by rfl)(hn:Nat.ble 0 fn.ntmps=true:=by rfl)(hD:B.D=[]:=by first|rfl|assumption):Calls P f #[] w R:=
 uw (args:=[]) hf hb (Nat.le_of_ble_eq_true hn) hL Pz hD
def cB1{v0:Value}(nt:Nat)(hf:P.funcs[f]? =some fn)(hL:aX B L w)(h:At B ⟨nt,[(0,v0)],L⟩ (c.wp P (bodyPost P fn R)))(hb:fn.body=some c:=by rfl)(hnt:fn.ntmps=nt:=by rfl)(hn:Nat.ble 1 fn.ntmps=true:=by rfl)(hD:B.D=[]:=by first|rfl|assumption):Calls P f #[v0] w R:=
 uw (args:=[v0]) hf hb (Nat.le_of_ble_eq_true hn) hL Pz hD
def cB2{v0 v1:Value}(nt:Nat)(hf:P.funcs[f]? =some fn)(hL:aX B L w)(h:At B ⟨nt,[(0,v0),(1,v1)],L⟩ (c.wp P (bodyPost P fn R)))(hb:fn.body=some c:=by rfl)(hnt:fn.ntmps=nt:=by rfl)(hn:Nat.ble 2 fn.ntmps=true:=by rfl)(hD:B.D=[]:=by first|rfl|assumption):Calls P f #[v0,v1] w R:=
 uw (args:=[v0,v1]) hf hb (Nat.le_of_ble_eq_true hn) hL Pz hD
def cB3{v0 v1 v2:Value}(nt:Nat)(hf:P.funcs[f]? =some fn)(hL:aX B L w)(h:At B ⟨nt,[(0,v0),(1,v1),(2,v2)],L⟩ (c.wp P (bodyPost P fn R)))(hb:fn.body=some c:=by rfl)(hnt:fn.ntmps=nt:=by rfl)(hn:Nat.ble 3 fn.ntmps=true:=by rfl)(hD:B.D=[]:=by first|rfl|assumption):Calls P f #[v0,v1,v2] w R:=
 uw (args:=[v0,v1,v2]) hf hb (Nat.le_of_ble_eq_true hn) hL Pz hD
def cB4{v0 v1 v2 v3:Value}(nt:Nat)(hf:P.funcs[f]? =some fn)(hL:aX B L w)(h:At B ⟨nt,[(0,v0),(1,v1),(2,v2),(3,v3)],L⟩ (c.wp P (bodyPost P fn R)))(hb:fn.body=some c:=by rfl)(hnt:fn.ntmps=nt:=by rfl)(hn:Nat.ble 4 fn.ntmps=true:=by rfl)(hD:B.D=[]:=by first|rfl|assumption):Calls P f #[v0,v1,v2,v3] w R:=
 uw (args:=[v0,v1,v2,v3]) hf hb (Nat.le_of_ble_eq_true hn) hL Pz hD
def cB5{v0 v1 v2 v3 v4:Value}(nt:Nat)(hf:P.funcs[f]? =some fn)(hL:aX B L w)(h:At B ⟨nt,[(0,v0),(1,v1),(2,v2),(3,v3),(4,v4)],L⟩ (c.wp P (bodyPost P fn R)))(hb:fn.body=some c:=by rfl)(hnt:fn.ntmps=nt:=by rfl)(hn:Nat.ble 5 fn.ntmps=true:=by rfl)(hD:B.D=[]:=by first|rfl|assumption):Calls P f #[v0,v1,v2,v3,v4] w R:=
 uw (args:=[v0,v1,v2,v3,v4]) hf hb (Nat.le_of_ble_eq_true hn) hL Pz hD
end
end Go.Via
