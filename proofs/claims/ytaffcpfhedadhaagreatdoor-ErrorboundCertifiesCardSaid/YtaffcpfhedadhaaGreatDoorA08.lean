/-
  Part 8 (chapter 32): lemmas, walks. Each theorem states its own conditions.
-/
import Derived.Defers
import Derived.Test.YtaffcpfhedadhaaGreatDoorA05
import Derived.Test.YtaffcpfhedadhaaGreatDoorA06
import Derived.Test.YtaffcpfhedadhaaGreatDoorA07
set_option linter.all false
set_option maxRecDepth 20000
set_option maxHeartbeats 20000000
namespace Go.Via
variable[Mo]
open Go Go.RowKit
def TN(l:List Oper):(List.range l.length).map (fun i=>l.toArray.getD i default)=l:=by
 apply List.ext_getElem
 ·simp
 ·intro i h1 h2;simp at h1;simp[h1]
def Fq{P:Program}{B:Bs}{s:St}{Q:Exit->Act->World->Prop}{id:Nat}{l:List Oper}(bl:List Nat)(hm:P.follows .mixedOrders=true)(hc:ve bl l.toArray (List.range l.length)=true)(hf:IC bl l.toArray s=true)
 (h:aU P bl l.toArray l s (fun s'=>At B s' (Q .normal))):At B s ((Code.region id l.toArray true).wp P Q):=Qc bl _ hm hc (TN l) hf h
def LdG(P:Program)(L:List aC)(T g off:Nat)(k:Value->Prop):Prop:=∃(j:Nat) (b:aC) (i:TI) (u v:Value),L[j]? =some b∧b.base=some g∧dP P T i=true∧(b.cs.drop off).take i.size=[u]∧i.size=1∧(bif i.agg then some (Value.agg #[u]) else some u)=some v∧k v
section
variable{P:Program}{bl:List Nat}{ops:Array Oper}{K:St->Prop}{rest:List Oper}{nt:Nat}{t:List (Nat×Value)}{L:List aC}{d:Nat}{ty:TypeId}{pos:String}{af:Array Edge}{g:Option (Nat×Bool)}{x y:Operand}
def qle{T gg off:Nat}(hd:Nat.blt d nt=true)(hg:au ops ⟨some d,.load T x,ty,pos,af,g⟩ t=some true)(hx:ev t x=some (.pointer (some ⟨gg,off,none⟩)))(h:LdG P (blank bl L) T gg off (fun v=>aU P bl ops rest ⟨nt,(d,v)::t,L⟩ K)):
 aU P bl ops (⟨some d,.load T x,ty,pos,af,g⟩::rest) ⟨nt,t,L⟩ K:=by
 obtain⟨j,b,i,u,v,h1,h2,h3,h4,h5,h6,h7⟩:=h;exact aI j off [u] hd hg h1 (by rw[hx];unfold aC.at;rw[h2];rfl) h3 h4 h5.symm (by rw[h5];rfl) h6 h7
def GR{T gg off:Nat}{k:Value->Prop}{b:aC}{i:TI}{u v:Value}(j:Nat)(h1:L[j]? =some b)(h2:b.base=some gg)(h3:dP P T i=true)(h4:(b.cs.drop off).take i.size=[u])(h5:i.size=1)(h6:(bif i.agg then some (Value.agg #[u]) else some u)=some v)(h7:k v):LdG P L T gg off k:=
 ⟨j,b,i,u,v,h1,h2,h3,h4,h5,h6,h7⟩
def fA{T:Nat}{j gg off fo fs:Nat}{i:TI}(hd:Nat.blt d nt=true)(hg:au ops ⟨some d,.fieldAddr T x j,ty,pos,af,g⟩ t=some true)(hx:ev t x=some (.pointer (some ⟨gg,off,none⟩)))(hi:dP P T i=true)
 (hf:i.flds[j]? =some (fo,fs+1)){off':Nat}(ho:off+fo=off')(h:aU P bl ops rest ⟨nt,(d,.pointer (some ⟨gg,off',none⟩))::t,L⟩ K):
 aU P bl ops (⟨some d,.fieldAddr T x j,ty,pos,af,g⟩::rest) ⟨nt,t,L⟩ K:=by
 subst ho;refine fG hd hg rfl (v:= .pointer (some ⟨gg,off+fo,none⟩)) (fun B a w hr=>?_) h;have h2:=hr.ev (x:=x) (v:= .pointer (some ⟨gg,off,none⟩)) hx;obtain⟨fs',f,h3,h4,h5,h6⟩:=Zh hi hf;simp only at h5 h6;have hsz:(sizeOf f.type).run P w= .ok (fs+1) w:=by
  cases hq:P.info? f.type with
  |none=>rw[hq] at h6;simp at h6
  |some inf=>rw[hq] at h6;simp at h6;simp[sizeOf,typeInfo,hq,h6]
 simp[execOp,h2,Instr.fieldAt,run_underlying h3,h4,Instr.sureAddr,fieldPlace,hsz,ku,h5]
end
def A1{P Q:Prop}(q:Q)(h:Q->P:=by
 intro q
 first
  |with_reducible exact Oh q
  |with_reducible exact qi9 q
  |with_reducible exact Tv q
  |with_reducible exact Xt q
  |with_reducible exact qgR q
  |with_reducible exact qc8 q
  |with_reducible exact Zn q
  |with_reducible exact qc9 q
  |with_reducible exact qje q
  |with_reducible exact qja q
  |with_reducible exact qjb q
  |with_reducible exact qjc q
  |with_reducible exact qjd q
  |(with_reducible refine Zm ?_ q);rfl
  |(with_reducible refine Zl ?_ q);rfl
  |exact qgW rfl rfl rfl q
  |exact IG rfl rfl rfl q
  |exact qld rfl rfl rfl q
  |exact Zu rfl rfl rfl rfl rfl q
  |exact qdd rfl rfl rfl rfl q
  |exact qdc rfl rfl rfl rfl q
  |exact Tz rfl rfl rfl q
  |exact qi7 rfl rfl rfl q
  |exact Zv rfl rfl rfl rfl q
  |exact Zw rfl rfl rfl rfl q
  |(refine qle rfl rfl rfl ?_;first|exact GR 0 rfl rfl (uY _) rfl rfl rfl q|exact GR 1 rfl rfl (uY _) rfl rfl rfl q|exact GR 2 rfl rfl (uY _) rfl rfl rfl q|exact GR 3 rfl rfl (uY _) rfl rfl rfl q|exact GR 4 rfl rfl (uY _) rfl rfl rfl q|exact GR 5 rfl rfl (uY _) rfl rfl rfl q|exact GR 6 rfl rfl (uY _) rfl rfl rfl q|exact GR 7 rfl rfl (uY _) rfl rfl rfl q|exact GR 8 rfl rfl (uY _) rfl rfl rfl q|exact GR 9 rfl rfl (uY _) rfl rfl rfl q|exact GR 10 rfl rfl (uY _) rfl rfl rfl q|exact GR 11 rfl rfl (uY _) rfl rfl rfl q)
  |exact fA rfl rfl rfl (uY _) rfl rfl q
  |exact TG rfl rfl rfl q
  |exact Ff (vs:=[_,_]) rfl rfl rfl rfl q
  |exact Ff (vs:=[_,_,_]) rfl rfl rfl rfl q
  |exact Ff (vs:=[_,_,_,_]) rfl rfl rfl rfl q
  |exact qgZ (uA _) rfl rfl rfl q
  |exact qg3 (uA _) rfl rfl rfl q
  |exact qi8 rfl (uT _) rfl rfl q):P:=h q
def A2{P Q:Prop}(q:Q)(h:Q->P:=by intro q;refine A1 ?_;exact A1 q):P:=h q
def A3{P Q:Prop}(q:Q)(h:Q->P:=by intro q;refine A1 ?_;exact A2 q):P:=h q
def A4{P Q:Prop}(q:Q)(h:Q->P:=by intro q;refine A2 ?_;exact A2 q):P:=h q
def A5{P Q:Prop}(q:Q)(h:Q->P:=by intro q;refine A2 ?_;exact A3 q):P:=h q
def A6{P Q:Prop}(q:Q)(h:Q->P:=by intro q;refine A3 ?_;exact A3 q):P:=h q
def A7{P Q:Prop}(q:Q)(h:Q->P:=by intro q;refine A3 ?_;exact A4 q):P:=h q
def A8{P Q:Prop}(q:Q)(h:Q->P:=by intro q;refine A4 ?_;exact A4 q):P:=h q
def A9{P Q:Prop}(q:Q)(h:Q->P:=by intro q;refine A4 ?_;exact A5 q):P:=h q
def kN{P Q:Prop}(q:Q)(h:Q->P:=by intro q;refine A5 ?_;exact A5 q):P:=h q
def pq{P Q:Prop}(q:Q)(h:Q->P:=by intro q;refine A5 ?_;exact A6 q):P:=h q
def lw{P Q:Prop}(q:Q)(h:Q->P:=by intro q;refine A6 ?_;exact A6 q):P:=h q
def D5{P Q:Prop}(q:Q)(h:Q->P:=by intro q;refine A6 ?_;exact A7 q):P:=h q
def D6{P Q:Prop}(q:Q)(h:Q->P:=by intro q;refine A7 ?_;exact A7 q):P:=h q
def AL{P Q:Prop}(q:Q)(h:Q->P:=by intro q;refine A7 ?_;exact A8 q):P:=h q
def KT{P Q:Prop}(q:Q)(h:Q->P:=by intro q;refine A8 ?_;exact A8 q):P:=h q
def KU{P Q:Prop}(q:Q)(h:Q->P:=by intro q;refine A8 ?_;exact A9 q):P:=h q
def A18{P Q:Prop}(q:Q)(h:Q->P:=by intro q;refine A9 ?_;exact A9 q):P:=h q
def A19{P Q:Prop}(q:Q)(h:Q->P:=by intro q;refine A9 ?_;exact kN q):P:=h q
def A20{P Q:Prop}(q:Q)(h:Q->P:=by intro q;refine kN ?_;exact kN q):P:=h q
def A21{P Q:Prop}(q:Q)(h:Q->P:=by intro q;refine kN ?_;exact pq q):P:=h q
def A22{P Q:Prop}(q:Q)(h:Q->P:=by intro q;refine pq ?_;exact pq q):P:=h q
def A23{P Q:Prop}(q:Q)(h:Q->P:=by intro q;refine pq ?_;exact lw q):P:=h q
def A24{P Q:Prop}(q:Q)(h:Q->P:=by intro q;refine lw ?_;exact lw q):P:=h q
def A25{P Q:Prop}(q:Q)(h:Q->P:=by intro q;refine lw ?_;exact D5 q):P:=h q
def A26{P Q:Prop}(q:Q)(h:Q->P:=by intro q;refine D5 ?_;exact D5 q):P:=h q
def A29{P Q:Prop}(q:Q)(h:Q->P:=by intro q;refine D6 ?_;exact AL q):P:=h q
def A30{P Q:Prop}(q:Q)(h:Q->P:=by intro q;refine AL ?_;exact AL q):P:=h q
section
variable{P:Program}{bl:List Nat}{ops:Array Oper}{K:St->Prop}{rest:List Oper}{nt:Nat}{t:List (Nat×Value)}{L:List aC}{d:Nat}{ty:TypeId}{pos:String}{af:Array Edge}{g:Option (Nat×Bool)}{x y:Operand}
def Ar{op:BinOp}{T U:Nat}{k:IntKind}{m n:Int}(r:Int)(h:aU P bl ops rest ⟨nt,(d,.int k r)::t,L⟩ K)(hd:Nat.blt d nt=true:=by rfl)(hg:au ops ⟨some d,.binOp op T x y U,ty,pos,af,g⟩ t=some true:=by rfl)(hx:ev t x=some (.int k m):=by rfl)(hy:ev t y=some (.int k n):=by rfl)
 (hr:(match op with| .add=>some (k.wrap (m+n))| .sub=>some (k.wrap (m-n))| .mul=>some (k.wrap (m*n))|_=>none)=some r:=by first|exact congrArg some (wi (by omega) (by omega) (by omega))|exact congrArg some (uS _ rfl (by omega))):
 aU P bl ops (⟨some d,.binOp op T x y U,ty,pos,af,g⟩::rest) ⟨nt,t,L⟩ K:=Va hd hg hx hy hr h
def Ix{T e:Nat}{k:IntKind}{i:Int}{b:aC}{off len cap:Nat}{inf:TI}(kk off':Nat)(h:aU P bl ops rest ⟨nt,(d,b.at off')::t,L⟩ K)(hT:P.underlying T=some (.slice e):=by exact uA _)(hinf:dP P e inf=true:=by exact uY _)(hd:Nat.blt d nt=true:=by rfl)(hg:au ops ⟨some d,.indexAddr T x y,ty,pos,af,g⟩ t=some true:=by rfl)
 (hk:(blank bl L)[kk]? =some b:=by rfl)(hx:ev t x=some (az b.base off len cap):=by rfl)(hy:ev t y=some (.int k i):=by rfl)(h0:0<=i:=by omega)(h1:i<len:=by omega)
 (hb:b.cs≠[]:=by first|exact List.cons_ne_nil _ _|exact nK (by rw[ax];omega)|exact nK (by omega)|exact tabC_ne (by decide)|exact SB_ne (by omega)|exact frmC_ne (by decide)|exact(fun e=>by have h8:=hR.1;have h9:=congrArg List.length e;rw[MH] at h9;simp only[List.length_nil] at h9;first|omega|(rw[List.length_set] at h9;omega))|exact(fun e=>by have h9:=congrArg List.length e;rw[MH] at h9;simp only[List.length_nil] at h9;first|omega|(rw[List.length_set] at h9;omega)))
 (ho:off+i.toNat*inf.size=off':=by first|(show 0+Int.toNat _*1=_;omega)|(show 0+Int.toNat _*3=_;omega)|(show 0+Int.toNat _*4=_;omega)|(show 0+Int.toNat _*2=_;omega)|(show 0+Int.toNat _*7=_;omega)):aU P bl ops (⟨some d,.indexAddr T x y,ty,pos,af,g⟩::rest) ⟨nt,t,L⟩ K:=
 ai kk off' hT hinf hd hg hk hx hy h0 h1 hb ho h
def Gm{f:Nat}{args:List Operand}{ts:Array TypeId}{dst:Option Nat}{vs:List Value}{AC:List aC}{X:Type}{res:X->Value}{L1:X->List aC}(n:Nat)(ks is:List Nat)(mk:X->List aC)(hc:BM P f AC vs X res L1)
 (h:∀x,aU P bl ops rest (({nt:=nt,t:=t,L:=mk x}:St).put dst (res x)) K)
 (hM:H5 bl=true:=by rfl)(hd:(match(generalizing:=false) dst with|some d=>Nat.blt d nt|none=>true)=true:=by rfl)
 (hg:au ops ⟨dst,.call {callee:= .value (.func f),args:=args.toArray,argTypes:=ts},ty,pos,af,g⟩ t=some true:=by rfl)
 (hv:args.map (ev t)=vs.map some:=by rfl)(hn:ks.Nodup:=by decide)(hk:ks.map (fun k=>L[k]?)=(AC.take n).map some:=by rfl)(hA:((AC.take n).all fun b=>b.own&&(Nat.blt b.e cZ||b.base.isSome))=true:=by rfl)
 (hp:jc L (is.map some) (AC.drop n):=by repeat (first|exact trivial|refine⟨⟨_,rfl,aC.le_refl _⟩,?_⟩))
 (hC:((AC.drop n).all fun b=> !b.own)=true:=by rfl)(hap:lG ((ks++is).map some) (AC.map (·.own))=true:=by rfl)
 (hlen:∀x,Nat.ble ks.length (L1 x).length=true:=by exact(fun _=>rfl))(hown:∀x,∀b∈L1 x,b.own=true∨∃a∈AC.take n,a.base=b.base∧b.base.isSome=true:=by exact(fun _=>Ou rfl))(hL:∀x,setG L ks (L1 x)=mk x:=by exact(fun _=>rfl)):
 aU P bl ops (⟨dst,.call {callee:= .value (.func f),args:=args.toArray,argTypes:=ts},ty,pos,af,g⟩::rest) ⟨nt,t,L⟩ K:=
 ZL vs (A:=AC.take n) (C:=AC.drop n) ks is mk hM hd hg hv (by rw[List.take_append_drop];exact hc) hn hk hA hp hC (by rw[List.take_append_drop];exact hap) hlen hown hL h
def Pc{f:Nat}{args:List Operand}{ts:Array TypeId}{vs:List Value}{v:Value}(hc:aH P f vs.toArray v)(h:aU P bl ops rest ⟨nt,(d,v)::t,L⟩ K)(hd:Nat.blt d nt=true:=by rfl)(hg:au ops ⟨some d,.call {callee:= .value (.func f),args:=args.toArray,argTypes:=ts},ty,pos,af,g⟩ t=some true:=by rfl)
 (hv:args.map (ev t)=vs.map some:=by rfl):
 aU P bl ops (⟨some d,.call {callee:= .value (.func f),args:=args.toArray,argTypes:=ts},ty,pos,af,g⟩::rest) ⟨nt,t,L⟩ K:=dL vs hd hg hv hc h
def So{T:Nat}{i:TI}{gg e n:Nat}{cs:List Value}{v:Value}(k off:Nat)(L':List aC)(cs':List Value)(h:aU P bl ops rest ⟨nt,t,L'⟩ K)(hbl:E8 bl=false:=by rfl)(hg:au ops ⟨none,.store T x y,ty,pos,af,g⟩ t=some true:=by rfl)(hk:L[k]? =some ⟨some gg,e,cs,n,true⟩:=by rfl)(hx:ev t x=some (.pointer (some ⟨gg,off,none⟩)):=by rfl)
 (hy:ev t y=some v:=by rfl)(hi:dP P T i=true:=by exact uY _)(hsz:v.cells.size=i.size:=by rfl)(hfit:Nat.ble (off+i.size) cs.length=true:=by rfl)(h1:(v.cells.toList.all fun u=>u.oneCell')=true:=by rfl)(hcs:cs.take off++v.cells.toList++cs.drop (off+i.size)=cs':=by rfl)(hL:L.set k ⟨some gg,e,cs',n,true⟩=L':=by rfl)
 (hpos:Nat.blt 0 i.size=true:=by rfl):aU P bl ops (⟨none,.store T x y,ty,pos,af,g⟩::rest) ⟨nt,t,L⟩ K:=oO hbl k off L' cs' hg hk hx hy hi hsz hfit h1 hcs hL h hpos
def Bo{T:Nat}{v:Value}(cs:List Value)(n:Nat)(mk:Nat->List aC)(h:∀b,aU P bl ops rest ⟨nt,(d,.pointer (some ⟨b,0,none⟩))::t,mk b⟩ K)(hd:Nat.blt d nt=true:=by rfl)(hg:au ops ⟨some d,.box T x,ty,pos,af,g⟩ t=some true:=by rfl)(hx:ev t x=some v:=by rfl)(hcs:v.cells.toList=cs:=by rfl)(hn:v.cells.size=n:=by rfl)
 (hL:∀b,L++[⟨some b,T,cs,n,true⟩]=mk b:=by exact(fun _=>rfl))(hT:Nat.blt T cZ=true:=by rfl):aU P bl ops (⟨some d,.box T x,ty,pos,af,g⟩::rest) ⟨nt,t,L⟩ K:=qfV cs n mk hd hg hx hcs hn hL h hT
def Vk{n:Nat}{listed:Array Bool}{s:St}{K:St->Prop}{o:Oper}(i:Nat)(h:aU P [1000000] ops [o] s (fun s'=>zh P ops K n (listed.setIfInBounds i true) s'))(h1:Region.ready .any ops listed=[i]:=by kernel_rfl)(ho:ops[i]? =some o:=by rfl):zh P ops K (n+1) listed s:=
 iW [i] h1 rfl ⟨⟨_,ho,h⟩,trivial⟩
def Tn2{n:Nat}{listed:Array Bool}{s:St}{K:St->Prop}{o o':Oper}(i j:Nat)(h:aU P [1000000] ops [o] s (fun s'=>zh P ops K n (listed.setIfInBounds i true) s'))(h':aU P [1000000] ops [o'] s (fun s'=>zh P ops K n (listed.setIfInBounds j true) s'))
 (h1:Region.ready .any ops listed=[i,j]:=by kernel_rfl)(ho:ops[i]? =some o:=by rfl)(ho':ops[j]? =some o':=by rfl):zh P ops K (n+1) listed s:=
 iW [i,j] h1 rfl ⟨⟨_,ho,h⟩,⟨_,ho',h'⟩,trivial⟩
def Tn3{n:Nat}{listed:Array Bool}{s:St}{K:St->Prop}{o o' u:Oper}(i j k:Nat)(h:aU P [1000000] ops [o] s (fun s'=>zh P ops K n (listed.setIfInBounds i true) s'))(h':aU P [1000000] ops [o'] s (fun s'=>zh P ops K n (listed.setIfInBounds j true) s'))(hu:aU P [1000000] ops [u] s (fun s'=>zh P ops K n (listed.setIfInBounds k true) s'))
 (h1:Region.ready .any ops listed=[i,j,k]:=by kernel_rfl)(ho:ops[i]? =some o:=by rfl)(ho':ops[j]? =some o':=by rfl)(ho2:ops[k]? =some u:=by rfl):zh P ops K (n+1) listed s:=
 iW [i,j,k] h1 rfl ⟨⟨_,ho,h⟩,⟨_,ho',h'⟩,⟨_,ho2,hu⟩,trivial⟩
end
section
variable{P:Program}{B:Bs}{Q:Exit->Act->World->Prop}{nt:Nat}{t:List (Nat×Value)}{L:List aC}{ι:Type}{c:Code}
abbrev SL:=List (Nat×Value)×List aC×Nat
def qC{L L':List aC}(ks:List (Option Nat))(hp:jc L ks L':=by repeat (first|exact trivial|refine⟨⟨_,rfl,aC.le_refl _⟩,?_⟩))(hl:ks.length=L'.length:=by rfl)(ha:lG ks (L'.map (·.own))=true:=by rfl):eH L L':=ak ks hp hl ha
def aV.pk{B:Bs}{w:World}{L L':List aC}(h:aV B L w)(ks:List (Option Nat))(hp:jc L ks L':=by repeat (first|exact trivial|refine⟨⟨_,rfl,aC.le_refl _⟩,?_⟩))(hl:ks.length=L'.length:=by rfl)(ha:lG ks (L'.map (·.own))=true:=by rfl):aV B L' w:=h.picks ks hp hl ha
def eH.auto{L L':List aC}(h:eH L L':=by
 first
  |exact ak [some 0] ⟨⟨_,rfl,aC.le_refl _⟩,trivial⟩ rfl rfl
  |exact ak [some 0,some 1] ⟨⟨_,rfl,aC.le_refl _⟩,⟨_,rfl,aC.le_refl _⟩,trivial⟩ rfl rfl
  |exact ak [some 0,some 1,some 2] ⟨⟨_,rfl,aC.le_refl _⟩,⟨_,rfl,aC.le_refl _⟩,⟨_,rfl,aC.le_refl _⟩,trivial⟩ rfl rfl
  |exact ak [some 0,some 1,some 2,some 3] ⟨⟨_,rfl,aC.le_refl _⟩,⟨_,rfl,aC.le_refl _⟩,⟨_,rfl,aC.le_refl _⟩,⟨_,rfl,aC.le_refl _⟩,trivial⟩ rfl rfl
  |exact ak [some 0,some 1,some 2,some 3,some 4] ⟨⟨_,rfl,aC.le_refl _⟩,⟨_,rfl,aC.le_refl _⟩,⟨_,rfl,aC.le_refl _⟩,⟨_,rfl,aC.le_refl _⟩,⟨_,rfl,aC.le_refl _⟩,trivial⟩ rfl rfl
  |exact ak [some 0,some 1,some 2,some 3,some 4,some 5] ⟨⟨_,rfl,aC.le_refl _⟩,⟨_,rfl,aC.le_refl _⟩,⟨_,rfl,aC.le_refl _⟩,⟨_,rfl,aC.le_refl _⟩,⟨_,rfl,aC.le_refl _⟩,⟨_,rfl,aC.le_refl _⟩,trivial⟩ rfl rfl
  |exact ak [some 0,some 1,some 2,some 3,some 4,some 5,some 6] ⟨⟨_,rfl,aC.le_refl _⟩,⟨_,rfl,aC.le_refl _⟩,⟨_,rfl,aC.le_refl _⟩,⟨_,rfl,aC.le_refl _⟩,⟨_,rfl,aC.le_refl _⟩,⟨_,rfl,aC.le_refl _⟩,⟨_,rfl,aC.le_refl _⟩,trivial⟩ rfl rfl
  |exact ak [some 0,some 1,some 2,some 3,some 4,some 5,some 6,some 7] ⟨⟨_,rfl,aC.le_refl _⟩,⟨_,rfl,aC.le_refl _⟩,⟨_,rfl,aC.le_refl _⟩,⟨_,rfl,aC.le_refl _⟩,⟨_,rfl,aC.le_refl _⟩,⟨_,rfl,aC.le_refl _⟩,⟨_,rfl,aC.le_refl _⟩,⟨_,rfl,aC.le_refl _⟩,trivial⟩ rfl rfl
  |exact ak [some 0,some 1,some 2,some 3,some 4,some 5,some 6,some 7,some 8] ⟨⟨_,rfl,aC.le_refl _⟩,⟨_,rfl,aC.le_refl _⟩,⟨_,rfl,aC.le_refl _⟩,⟨_,rfl,aC.le_refl _⟩,⟨_,rfl,aC.le_refl _⟩,⟨_,rfl,aC.le_refl _⟩,⟨_,rfl,aC.le_refl _⟩,⟨_,rfl,aC.le_refl _⟩,⟨_,rfl,aC.le_refl _⟩,trivial⟩ rfl rfl):eH L L':=h
def El(S:ι->SL)(i₀:ι)(round:∀i,At B ⟨nt,(S i).1,(S i).2.1⟩ (c.wp P (Exit.then (Nxt B nt (fun i=>(S i).1) (fun i=>(S i).2.1) (fun i=>(S i).2.2) i) Q)))
 (ht:jC t (S i₀).1:=by repeat (first|exact trivial|refine⟨rfl,?_⟩))(hL:eH L (S i₀).2.1:=by exact eH.refl _):At B ⟨nt,t,L⟩ ((Code.loop c).wp P Q):=qg1 _ _ _ i₀ ht hL round
def Nl{T:ι->List (Nat×Value)}{LL:ι->List aC}{μ:ι->Nat}{i:ι}(j:ι)(hμ:μ j<μ i:=by first|(simp only[];omega)|(dsimp only;omega))
 (ht:jC t (T j):=by repeat (first|exact trivial|refine⟨rfl,?_⟩))(hL:eH L (LL j):=by exact eH.refl _):At B ⟨nt,t,L⟩ (Nxt B nt T LL μ i):=qjg j hμ ht hL
end
section
variable{P:Program}{f:Nat}{fn:Func}{c:Code}{B:Bs}{w:World}{R:Ending->World->Prop}{L:List aC}
def cB0(nt:Nat)(hf:P.funcs[f]? =some fn)(hL:aV B L w)(h:At B ⟨nt,[],L⟩ (c.wp P (bodyPost P fn R)))(hb:fn.body=some c:=by rfl)(hnt:fn.ntmps=nt:=by rfl)(hn:Nat.ble 0 fn.ntmps=true:=by rfl)(hD:B.D=[]:=by first|rfl|assumption):Calls P f #[] w R:=
 sW (args:=[]) hf hb (Nat.le_of_ble_eq_true hn) hL (by subst hnt;exact h) hD
def cB1{v0:Value}(nt:Nat)(hf:P.funcs[f]? =some fn)(hL:aV B L w)(h:At B ⟨nt,[(0,v0)],L⟩ (c.wp P (bodyPost P fn R)))(hb:fn.body=some c:=by rfl)(hnt:fn.ntmps=nt:=by rfl)(hn:Nat.ble 1 fn.ntmps=true:=by rfl)(hD:B.D=[]:=by first|rfl|assumption):Calls P f #[v0] w R:=
 sW (args:=[v0]) hf hb (Nat.le_of_ble_eq_true hn) hL (by subst hnt;exact h) hD
def XC{v0 v1:Value}(nt:Nat)(hf:P.funcs[f]? =some fn)(hL:aV B L w)(h:At B ⟨nt,[(0,v0),(1,v1)],L⟩ (c.wp P (bodyPost P fn R)))(hb:fn.body=some c:=by rfl)(hnt:fn.ntmps=nt:=by rfl)(hn:Nat.ble 2 fn.ntmps=true:=by rfl)(hD:B.D=[]:=by first|rfl|assumption):Calls P f #[v0,v1] w R:=
 sW (args:=[v0,v1]) hf hb (Nat.le_of_ble_eq_true hn) hL (by subst hnt;exact h) hD
def ZM{v0 v1 v2:Value}(nt:Nat)(hf:P.funcs[f]? =some fn)(hL:aV B L w)(h:At B ⟨nt,[(0,v0),(1,v1),(2,v2)],L⟩ (c.wp P (bodyPost P fn R)))(hb:fn.body=some c:=by rfl)(hnt:fn.ntmps=nt:=by rfl)(hn:Nat.ble 3 fn.ntmps=true:=by rfl)(hD:B.D=[]:=by first|rfl|assumption):Calls P f #[v0,v1,v2] w R:=
 sW (args:=[v0,v1,v2]) hf hb (Nat.le_of_ble_eq_true hn) hL (by subst hnt;exact h) hD
def cB4{v0 v1 v2 v3:Value}(nt:Nat)(hf:P.funcs[f]? =some fn)(hL:aV B L w)(h:At B ⟨nt,[(0,v0),(1,v1),(2,v2),(3,v3)],L⟩ (c.wp P (bodyPost P fn R)))(hb:fn.body=some c:=by rfl)(hnt:fn.ntmps=nt:=by rfl)(hn:Nat.ble 4 fn.ntmps=true:=by rfl)(hD:B.D=[]:=by first|rfl|assumption):Calls P f #[v0,v1,v2,v3] w R:=
 sW (args:=[v0,v1,v2,v3]) hf hb (Nat.le_of_ble_eq_true hn) hL (by subst hnt;exact h) hD
def cB5{v0 v1 v2 v3 v4:Value}(nt:Nat)(hf:P.funcs[f]? =some fn)(hL:aV B L w)(h:At B ⟨nt,[(0,v0),(1,v1),(2,v2),(3,v3),(4,v4)],L⟩ (c.wp P (bodyPost P fn R)))(hb:fn.body=some c:=by rfl)(hnt:fn.ntmps=nt:=by rfl)(hn:Nat.ble 5 fn.ntmps=true:=by rfl)(hD:B.D=[]:=by first|rfl|assumption):Calls P f #[v0,v1,v2,v3,v4] w R:=
 sW (args:=[v0,v1,v2,v3,v4]) hf hb (Nat.le_of_ble_eq_true hn) hL (by subst hnt;exact h) hD
end
end Go.Via
namespace Go.Via
variable[Mo]
open Go Go.RowKit
section
variable{P:Program}{bl:List Nat}{ops:Array Oper}{nt:Nat}{t:List (Nat×Value)}{L:List aC}{B:Bs}{rest:List Oper}{K:St->Prop}{ty:TypeId}{pos:String}{af:Array Edge}{g:Option (Nat×Bool)}{d:Nat}
def Cd{s:St}{Q:Exit->Act->World->Prop}{c:Operand}{x y:Code}{b:Bool}(h1:b=true->At B s (x.wp P Q))(h2:b=false->At B s (y.wp P Q))(hc:ev s.t c=some (.bool b):=by rfl):At B s ((Code.cond c x y).wp P Q):=x8 hc h1 h2
def Rs{X:Act->World->Prop}{l:List Oper}{b:Bool}(d:Nat)(hT:b=true->aU P bl ops l ⟨nt,(d,.bool true)::t,L⟩ (fun s'=>At B s' X))(hF:b=false->aU P bl ops l ⟨nt,(d,.bool false)::t,L⟩ (fun s'=>At B s' X))
 (hx:look t d=some (.bool b):=by rfl):aU P bl ops l ⟨nt,t,L⟩ (fun s'=>At B s' X):=DU d hx hT hF
def Ld{T:Nat}{x:Operand}{i:TI}{b:aC}{v:Value}(k off:Nat)(vs:List Value)(hi:dP P T i=true)(h:aU P bl ops rest ⟨nt,(d,v)::t,L⟩ K)
 (hd:Nat.blt d nt=true:=by rfl)(hg:au ops ⟨some d,.load T x,ty,pos,af,g⟩ t=some true:=by rfl)(hk:(blank bl L)[k]? =some b:=by rfl)(hx:ev t x=some (b.at off):=by rfl)
 (hvs:(b.cs.drop off).take i.size=vs:=by rfl)(hlen:vs.length=i.size:=by rfl)(hpos:Nat.blt 0 i.size=true:=by rfl)(hv:(bif i.agg then some (.agg vs.toArray) else vs[0]?)=some v:=by rfl):
 aU P bl ops (⟨some d,.load T x,ty,pos,af,g⟩::rest) ⟨nt,t,L⟩ K:=aI k off vs hd hg hk hx hi hvs hlen hpos hv h
def Kr{X:Act->World->Prop}{l:List Oper}{v:Value}(d:Nat)(v':Value)(h:aU P bl ops l ⟨nt,(d,v')::t,L⟩ (fun s'=>At B s' X))(hx:look t d=some v:=by rfl)(hv:v=v':=by rfl):aU P bl ops l ⟨nt,t,L⟩ (fun s'=>At B s' X):=aQ d v' hx hv h
def E1{fn:Func}{R:Ending->World->Prop}{s:St}{d:Nat}{v:Value}(hR:∀w,aV B s.L w->R (.returned v) w)(hfn:fn.results= #[.tmp d]:=by rfl)(h:look s.t d=some v:=by rfl)(hD:B.D=[]:=by first|rfl|assumption):At B s (bodyPost P fn R .ret):=
 aF hfn (aj h) hR hD
def eB{a b:Bool}(h:a=b):Ending.returned (.bool a)=Ending.returned (.bool b):=by rw[h]
end
end Go.Via
namespace Go.Via
variable[Mo]
open Go Go.RowKit
def ZN(P:Program)(f:Nat)(L0:List aC)(args:List Value)(X:Type)(res:X->Value)(L1:X->List aC):Prop:=
 iM P f=true∧∀(B:Bs) (w:World),B.D=[]->aV B L0 w->CallsD P f args.toArray .returning w fun e u' w'=>u'= .returning∧∃x,e= .returned (res x)∧aV B (L1 x) w'
theorem ZN.at{P:Program}{f:Nat}{L A C:List aC}{args:List Value}{X:Type}{res:X->Value}{L1:X->List aC}(hc:ZN P f (A++C) args X res L1)(ks is:List Nat)(hn:ks.Nodup)(hk:ks.map (fun k=>L[k]?)=A.map some)
 (hA:(A.all fun b=>b.own&&(Nat.blt b.e cZ||b.base.isSome))=true)(hp:jc L (is.map some) C)(hC:(C.all fun b=> !b.own)=true)(hap:lG ((ks++is).map some) ((A++C).map (·.own))=true)(hlen:∀x,Nat.ble ks.length (L1 x).length=true)(hown:∀x,∀b∈L1 x,b.own=true∨∃a∈A,a.base=b.base∧b.base.isSome=true)
 {B:Bs}{w:World}(h:aV B L w):CallsD P f args.toArray .returning w fun e u' w'=>u'= .returning∧∃x,e= .returned (res x)∧aV B (setG L ks (L1 x)) w':=by
 obtain⟨B',hD,h2,hb⟩:=IZ ks is hn hk hA hp hC hap h;refine(hc.2 B' w hD h2).mono ?_;rintro e u' w' ⟨hu,x,rfl,hx⟩;exact⟨hu,x,rfl,hb _ _ (hlen x) (hown x) hx⟩
end Go.Via
namespace Go.Via
def val(B:Nat):List Nat->Nat
 |[]=>0
 |d::l=>d+B*val B l
@[simp] theorem qkT (B:Nat):val B []=0:=rfl
@[simp] theorem qX (B d:Nat) (l:List Nat):val B (d::l)=d+B*val B l:=rfl
def ag(B n:Nat):List Nat:=
 if _h:n=0∨B<2 then[] else n%B::ag B (n/B)
 termination_by n
 decreasing_by exact Nat.div_lt_self (by omega) (by omega)
theorem jg(B:Nat):ag B 0=[]:=by unfold ag;simp
theorem oQ{B n:Nat}(hB:2<=B)(hn:n≠0):ag B n=n%B::ag B (n/B):=by
 conv=>lhs;unfold ag
 rw[dif_neg (by omega)]
theorem qY{B:Nat}(hB:2<=B)(n:Nat):val B (ag B n)=n:=by
 induction n using Nat.strongRecOn with
 |_ n ih=>
  by_cases hn:n=0
  ·subst hn;simp[jg]
  ·rw[oQ hB hn,qX,ih _ (Nat.div_lt_self (by omega) (by omega))];exact Nat.mod_add_div n B
theorem AO{B n:Nat}(hB:2<=B):∀d∈ag B n,d<B:=by
 induction n using Nat.strongRecOn with
 |_ n ih=>
  by_cases hn:n=0
  ·subst hn;simp[jg]
  ·rw[oQ hB hn];intro d hd;rcases List.mem_cons.1 hd with rfl|hd
   ·exact Nat.mod_lt _ (by omega)
   ·exact ih _ (Nat.div_lt_self (by omega) (by omega)) d hd
def vw(l:List Nat):Prop:=l.getLast? ≠some 0
def LY:vw []:=by simp[vw]
theorem I4{d:Nat}{l:List Nat}(h:vw (d::l)):vw l:=by
 cases l with
 |nil=>exact LY
 |cons e l=>simpa[vw,List.getLast?_cons_cons] using h
def xk{B:Nat}(hB:2<=B):∀{l:List Nat},vw l->l≠[]->0<val B l
 |[],_,h=>absurd rfl h
 |[d],h,_=>by
  simp[vw] at h;simp;omega
 |d::e::l,h,_=>by
  have:=xk hB (I4 h) (by simp);rw[qX];have:0<B*val B (e::l):=Nat.mul_pos (by omega) this;omega
theorem I5{B:Nat}(hB:2<=B):∀{l:List Nat},(∀d∈l,d<B)->vw l->ag B (val B l)=l
 |[],_,_=>by simp[jg]
 |d::l,hl,hc=>by
  have hp:=xk hB hc (by simp);rw[oQ hB (by omega)];have hd:=hl d (by simp);have e1:val B (d::l)%B=d:=(by rw[qX,Nat.add_mul_mod_self_left];exact Nat.mod_eq_of_lt hd);have e2:val B (d::l)/B=val B l:=by
   rw[qX,Nat.add_mul_div_left _ _ (by omega),Nat.div_eq_of_lt hd];omega
  rw[e1,e2,I5 hB (fun x hx=>hl x (by simp[hx])) (I4 hc)]
def TP{B:Nat}(hB:2<=B)(n:Nat):vw (ag B n):=by
 induction n using Nat.strongRecOn with
 |_ n ih=>
  by_cases hn:n=0
  ·subst hn;rw[jg];exact LY
  ·rw[oQ hB hn];have h2:=ih _ (Nat.div_lt_self (n:=n) (k:=B) (by omega) (by omega));cases hd:ag B (n/B) with
   |nil=>
    have h0:n/B=0:=(by rw[<-qY hB (n/B),hd];rfl);have:n<B:=by
     rcases Nat.div_eq_zero_iff.1 h0 with h|h
     ·omega
     ·exact h
    simp[vw,Nat.mod_eq_of_lt this];exact hn
   |cons e l=>rw[hd] at h2;simpa[vw,List.getLast?_cons_cons] using h2
theorem qf(B:Nat)(a b:List Nat):val B (a++b)=val B a+B^a.length*val B b:=by
 induction a with
 |nil=>simp
 |cons d a ih=>
  rw[List.cons_append,qX,ih,qX,List.length_cons,Nat.pow_succ,Nat.mul_add,
 show B^a.length*B*val B b=B*(B^a.length*val B b) by rw[Nat.mul_comm (B^a.length) B,Nat.mul_assoc]]
  omega
def Fv{B:Nat}(hB:1<=B):∀{l:List Nat},(∀d∈l,d<B)->val B l<B^l.length
 |[],_=>by simp
 |d::l,hl=>by
  have h1:=Fv hB (l:=l) (fun x hx=>hl x (by simp[hx]));have hd:=hl d (by simp);rw[qX,List.length_cons,Nat.pow_succ];have:B*val B l+B<=B^l.length*B:=by
   have:=Nat.mul_le_mul_left B (Nat.succ_le_of_lt h1);rw[Nat.mul_comm (B^l.length) B];rw[Nat.mul_succ] at this;exact this
  omega
def iE{B:Nat}(hB:2<=B){n k:Nat}(h:n<B^k):(ag B n).length<=k:=by
 induction k generalizing n with
 |zero=>simp at h;subst h;simp[jg]
 |succ k ih=>
  by_cases hn:n=0
  ·subst hn;simp[jg]
  ·rw[oQ hB hn,List.length_cons];have:=ih (n:=n/B) (by rw[Nat.div_lt_iff_lt_mul (by omega)];rwa [Nat.pow_succ] at h);omega
theorem dO{B:Nat}(hB:2<=B)(n:Nat):n<B^(ag B n).length:=by
 have:=Fv (B:=B) (by omega) (l:=ag B n) (AO hB)
 rwa [qY hB] at this
def Ov{B:Nat}(hB:2<=B){n k:Nat}(h:B^k<=n):k<(ag B n).length:=by
 have h1:=dO hB n;rcases Nat.lt_or_ge k (ag B n).length with h2|h2
 ·exact h2
 ·have:=Nat.pow_le_pow_right (n:=B) (by omega) h2;omega
theorem lC{B:Nat}(hB:2<=B)(n i:Nat)(hi:i<(ag B n).length):(ag B n)[i]? =some (n/B^i%B):=by
 induction i generalizing n with
 |zero=>
  by_cases hn:n=0
  ·subst hn;simp[jg] at hi
  ·rw[oQ hB hn];simp
 |succ i ih=>
  by_cases hn:n=0
  ·subst hn;simp[jg] at hi
  ·rw[oQ hB hn] at hi ⊢;rw[List.getElem?_cons_succ,ih _ (by simpa using hi),Nat.div_div_eq_div_mul,Nat.pow_succ,Nat.mul_comm B]
end Go.Via
namespace Go.Via
theorem KW(B:Nat)(l:List Nat)(k:Nat)(hk:k<l.length):val B (l.take (k+1))=val B (l.take k)+B^k*l[k]:=by
 rw[List.take_succ_eq_append_getElem hk,qf];simp[List.length_take,Nat.min_eq_left (Nat.le_of_lt hk)]
theorem Ql(B:Nat)(l:List Nat)(d:Nat):val B (l++[d])=val B l+B^l.length*d:=by
 rw[qf];simp
def CG(B n:Nat):val B (List.replicate n 0)=0:=by
 induction n with
 |zero=>rfl
 |succ n ih=>simp[List.replicate_succ,ih]
theorem Qm{p:Nat->Prop}{l:List Nat}(h:∀d∈l,p d)(k:Nat):∀d∈l.take k,p d:=
 fun d hd=>h d (List.mem_of_mem_take hd)
theorem Qn{B:Nat}(hB:2<=B){l:List Nat}(hl:∀d∈l,d<B){n:Nat}(hn:n<=l.length)(hv:val B (l.take n)=val B l)
 (hz:n=0∨∃h:n-1<l.length,l[n-1]≠0):l.take n=ag B (val B l):=by
 rw[<-hv,I5 hB (Qm hl n)];unfold vw;rcases hz with rfl|⟨h,hne⟩
 ·simp
 ·rw[List.getLast?_eq_getElem?,List.length_take,Nat.min_eq_left hn]
  by_cases h0:n=0
  ·subst h0;simp
  ·rw[List.getElem?_take,if_pos (by omega),List.getElem?_eq_getElem h]
   simpa using hne
def XD{B:Nat}{l:List Nat}{n:Nat}(hn:n+1<=l.length)(hv:val B (l.take (n+1))=val B l)(hz:l[n]=0):val B (l.take n)=val B l:=by
 rw[KW B l n (by omega),hz] at hv
 simpa using hv
def CJ{B:Nat}(hB:2<=B){a b:Nat}(h:(ag B a).length<(ag B b).length):a<b:=by
 have h1:=dO hB a;rcases Nat.lt_or_ge a b with h2|h2
 ·exact h2
 ·have:=iE hB (n:=b) (k:=(ag B a).length) (by omega);omega
def qg{B:Nat}(hB:2<=B){a b:Nat}(h:a<=b):(ag B a).length<=(ag B b).length:=
 iE hB (Nat.lt_of_le_of_lt h (dO hB b))
theorem vz{B:Nat}(hB:2<=B){n:Nat}:ag B n=[]↔n=0:=by
 constructor
 ·intro h;have:=qY hB n;rw[h] at this;exact this.symm
 ·rintro rfl;exact jg B
theorem zq{B:Nat}(hB:2<=B){d:Nat}(h0:d≠0)(h:d<B):ag B d=[d]:=by
 rw[oQ hB h0,Nat.mod_eq_of_lt h,Nat.div_eq_of_lt h,jg]
end Go.Via
namespace Go.Via
def TQ{B Y y1 y2 Yr X high x2 Xr P g rest:Nat}(hP:0<P)(hY:Y=(y1*B+y2)*P+Yr)(hX:X=(high*B+x2)*P+Xr)(hXr:Xr<P)
 (hg:g*y1+rest=high)(hyp:0<Y)(ht:g*y2>rest*B+x2):X/Y<g:=by
 rw[Nat.div_lt_iff_lt_mul hyp];have h1:g*(y1*B+y2)=g*y1*B+g*y2:=by grind
 have h2:(high*B+x2)+1<=g*(y1*B+y2):=by
  rw[h1,<-hg];have:(g*y1+rest)*B=g*y1*B+rest*B:=by grind
  omega
 have h3:=Nat.mul_le_mul_right P h2;have h4:g*Y=g*(y1*B+y2)*P+g*Yr:=(by rw[hY];grind);have h5:(high*B+x2+1)*P=(high*B+x2)*P+P:=(by grind);omega
def Qp{B Y y1 y2 Yr X high x2 Xr P:Nat}(_hP:0<P)(hY:Y=(y1*B+y2)*P+Yr)(hX:X=(high*B+x2)*P+Xr)(hXr:Xr<P)(hx2:x2<B)
 (hy1:0<y1)(hyp:0<Y):X/Y<=high/y1:=by
 have h0:X/Y<high/y1+1:=by
  rw[Nat.div_lt_iff_lt_mul hyp];have h1:high+1<=(high/y1+1)*y1:=by
   have:=Nat.div_add_mod high y1;have:=Nat.mod_lt high hy1;have:(high/y1+1)*y1=y1*(high/y1)+y1:=(by grind);omega
  have h2:=Nat.mul_le_mul_right (B*P) h1;have h3:(high/y1+1)*Y=(high/y1+1)*y1*(B*P)+(high/y1+1)*(y2*P+Yr):=(by rw[hY];grind);have h4:(high+1)*(B*P)=high*B*P+B*P:=(by grind);have h5:(high*B+x2)*P=high*B*P+x2*P:=(by grind);have h6:(x2+1)*P<=B*P:=Nat.mul_le_mul_right P hx2;have h7:(x2+1)*P=x2*P+P:=(by grind);omega
 omega
def LZ{B Y y1 y2 Yr X high x2 Xr P g rest:Nat}(hY:Y=(y1*B+y2)*P+Yr)(hX:X=(high*B+x2)*P+Xr)
 (hYr:Yr<P)(hy1:0<y1)(hy2:y2<B)(hg:g*y1+rest=high)(hyp:0<Y)(hgB:g<=B)(ht:g*y2<=rest*B+x2∨B<=rest):g<=X/Y+1:=by
 have h1:g*(y1*B+y2)<=high*B+x2:=by
  have e1:g*(y1*B+y2)=g*y1*B+g*y2:=(by grind);have e2:high*B=g*y1*B+rest*B:=(by rw[<-hg];grind);rcases ht with h|h
  ·omega
  ·have a1:g*y2<=B*y2:=Nat.mul_le_mul_right _ hgB;have a2:B*y2<=B*B:=Nat.mul_le_mul_left _ (by omega);have a3:B*B<=rest*B:=Nat.mul_le_mul_right _ h;omega
 have h2:=Nat.mul_le_mul_right P h1;have h3:g*Y=g*(y1*B+y2)*P+g*Yr:=(by rw[hY];grind);have h4:g*Yr<=g*P:=Nat.mul_le_mul_left _ (by omega);have h5:g*P<=B*P:=Nat.mul_le_mul_right _ hgB;have h6:B*P<=Y:=by
  have b1:1*(B*P)<=y1*(B*P):=Nat.mul_le_mul_right _ hy1;have b2:Y=y1*(B*P)+(y2*P+Yr):=(by rw[hY];grind);omega
 have h7:g*Y<=X+Y:=(by omega);rcases Nat.lt_or_ge (X/Y+1) g with h|h
 ·exfalso
  have c1:(X/Y+2)*Y<=g*Y:=Nat.mul_le_mul_right _ h;have c2:(X/Y+2)*Y=Y*(X/Y)+Y+Y:=(by grind);have c3:=Nat.div_add_mod X Y;have c4:=Nat.mod_lt X hyp;omega
 ·exact h
def qdp{B Y y1 y2 Yr X high x2 Xr P:Nat}(hY:Y=(y1*B+y2)*P+Yr)(hX:X=(high*B+x2)*P+Xr)(hYr:Yr<P)
 (hy2:y2<B)(hXY:X<B*Y):high<(y1+1)*B:=by
 rcases Nat.lt_or_ge high ((y1+1)*B) with h|h
 ·exact h
 ·exfalso
  have h1:=Nat.mul_le_mul_right (B*P) h;have h2:X=high*(B*P)+(x2*P+Xr):=(by rw[hX];grind);have h3:(y1+1)*B*(B*P)=B*(y1*B*P+B*P):=(by grind);have h4:Y<=y1*B*P+B*P:=by
   have:(y2+1)*P<=B*P:=Nat.mul_le_mul_right _ hy2;have e1:(y2+1)*P=y2*P+P:=(by grind);have e2:(y1*B+y2)*P=y1*B*P+y2*P:=(by grind);omega
  have h5:=Nat.mul_le_mul_left B h4;omega
end Go.Via
namespace Go.Via
def lW(l:List UInt8):Nat:=val 256 (l.reverse.map UInt8.toNat)
def qg4(s:ByteArray):Nat:=lW s.data.toList
def sK(n:Nat):List UInt8:=(ag 256 n).reverse.map UInt8.ofNat
def bH(n:Nat):ByteArray:=⟨(sK n).toArray⟩
def nb(n:Nat):Nat:=(ag 256 n).length
theorem D7(n:Nat):(bH n).data.toList=sK n:=rfl
theorem zu(n:Nat):(sK n).length=nb n:=by simp[sK,nb]
theorem lg(n:Nat):(bH n).size=nb n:=by
 show(sK n).toArray.size=_;simp[zu]
theorem I7(l:List UInt8):∀d∈l.reverse.map UInt8.toNat,d<256:=by
 intro d hd;obtain⟨u,_,rfl⟩:=List.mem_map.1 hd;exact u.toNat_lt
theorem GU(l:List UInt8):(l.map UInt8.toNat).map UInt8.ofNat=l:=by
 rw[List.map_map]
 conv=>rhs;rw[<-List.map_id l]
 exact List.map_congr_left (fun u _=>by simp)
theorem nS{l:List Nat}(h:∀d∈l,d<256):(l.map UInt8.ofNat).map UInt8.toNat=l:=by
 rw[List.map_map]
 conv=>rhs;rw[<-List.map_id l]
 exact List.map_congr_left (fun u hu=>by have:=h u hu;simp;omega)
def XE(n:Nat):lW (sK n)=n:=by
 unfold lW sK;rw[<-List.map_reverse,List.reverse_reverse,nS (AO (by omega)),qY (by omega)]
theorem Qq(n:Nat):qg4 (bH n)=n:=XE n
theorem Ox{a b:Nat}:bH a=bH b↔a=b:=by
 constructor
 ·intro h;have:=congrArg qg4 h;rwa [Qq,Qq] at this
 ·rintro rfl;rfl
def qdq(s:ByteArray):Prop:=s.data.toList.head? ≠some 0
theorem Fz{l:List UInt8}(h:l.head? ≠some 0):sK (lW l)=l:=by
 unfold sK lW;rw[I5 (by omega) (I7 l)]
 ·rw[<-List.map_reverse,List.reverse_reverse,GU]
 ·unfold vw;rw[List.getLast?_map,List.getLast?_reverse];cases hh:l.head? with
  |none=>simp
  |some u=>
   simp only[Option.map_some,ne_eq,Option.some.injEq];intro hu
   apply h
   rw[hh]
   congr 1
   exact UInt8.toNat_inj.1 (by simpa using hu)
def ZO{s:ByteArray}(h:qdq s):bH (qg4 s)=s:=by
 cases s with
 |mk d=>
  show ByteArray.mk (sK (lW d.toList)).toArray=_;rw[Fz h]
def ZP(n:Nat):qdq (bH n):=by
 unfold qdq;rw[D7];unfold sK;rw[List.head?_map,List.head?_reverse];have h:=TP (B:=256) (by omega) n;unfold vw at h;cases hl:(ag 256 n).getLast? with
 |none=>simp
 |some d=>
  have hd:d<256:=AO (by omega) d (List.mem_of_getLast? hl);simp only[Option.map_some,ne_eq,Option.some.injEq];intro hu;have:=congrArg UInt8.toNat hu;simp at this;rw[Nat.mod_eq_of_lt hd] at this;rw[hl,this] at h;exact h rfl
theorem kw:nb 0=0:=by simp[nb,jg]
def CO{n:Nat}:nb n=0↔n=0:=by
 unfold nb;rw[List.length_eq_zero_iff,vz (by omega)]
def ng{n k:Nat}(h:n<256^k):nb n<=k:=iE (by omega) h
theorem jT(n:Nat):n<256^nb n:=dO (by omega) n
def oH{n k:Nat}(h:nb n<=k):n<256^k:=Nat.lt_of_lt_of_le (jT n) (Nat.pow_le_pow_right (by omega) h)
def gK{a b:Nat}(h:a<=b):nb a<=nb b:=qg (by omega) h
def zx(a b:Nat):nb (a+b)<=max (nb a) (nb b)+1:=by
 apply ng
 have h1:=oH (n:=a) (k:=max (nb a) (nb b)) (by omega);have h2:=oH (n:=b) (k:=max (nb a) (nb b)) (by omega);rw[Nat.pow_succ];omega
def nX(a b:Nat):nb (a*b)<=nb a+nb b:=by
 apply ng
 rw[Nat.pow_add];exact Nat.mul_lt_mul'' (jT a) (jT b)
def wC(a b:Nat):nb (a/b)<=nb a:=gK (Nat.div_le_self a b)
def Qr(a b:Nat)(h:a≠0):nb (Nat.gcd a b)<=nb a:=gK (Nat.gcd_le_left b (by omega))
theorem iQ:bH 0=⟨#[]⟩:=by show ByteArray.mk (sK 0).toArray=_;simp[sK,jg]
theorem qdr:bH 1=⟨#[1]⟩:=by
 show ByteArray.mk (sK 1).toArray=_;rw[sK,zq (by omega) (by omega) (by omega)];rfl
def KX(n i:Nat)(hi:i<nb n):(sK n)[i]? =some (UInt8.ofNat (n/256^(nb n-1-i)%256)):=by
 unfold sK;rw[List.getElem?_map,List.getElem?_reverse (by simpa[nb] using hi)];have:=lC (B:=256) (by omega) n (nb n-1-i) (by unfold nb at*;omega);unfold nb at*;rw[this];rfl
end Go.Via
