/-
  Part 4 (chapter 32): lemmas, walks. Each theorem states its own conditions.
-/
import Derived.Defers
import Derived.Test.YtaffcpfhedadhaaGreatDoorA02
import Derived.Test.YtaffcpfhedadhaaGreatDoorA03
set_option linter.all false
set_option maxRecDepth 20000
set_option maxHeartbeats 20000000
namespace Go.Via
variable[Mo]
open Go Go.RowKit
def TT(l:List Oper):(List.range l.length).map (fun i=>l.toArray.getD i default)=l:=by
 apply List.ext_getElem
 ·simp
 ·intro i h1 h2;simp at h1;simp[h1]
def XD{P:Program}{B:Bs}{s:St}{Q:Exit->Act->World->Prop}{id:Nat}{l:List Oper}(bl:List Nat)(hm:P.follows .mixedOrders=true)(hc:uH bl l.toArray (List.range l.length)=true)(hf:IZ bl l.toArray s=true)
 (h:aX P bl l.toArray l s (fun s'=>At B s' (Q .normal))):At B s ((Code.region id l.toArray true).wp P Q):=P5 bl _ hm hc (TT l) hf h
def LdG(P:Program)(L:List aF)(T g off:Nat)(k:Value->Prop):Prop:=∃(j:Nat) (b:aF) (i:TI) (u v:Value),L[j]? =some b∧b.base=some g∧dU P T i=true∧(b.cs.drop off).take i.size=[u]∧i.size=1∧(bif i.agg then some (Value.agg #[u]) else some u)=some v∧k v
section
variable{P:Program}{bl:List Nat}{ops:Array Oper}{K:St->Prop}{rest:List Oper}{nt:Nat}{t:List (Nat×Value)}{L:List aF}{d:Nat}{ty:TypeId}{pos:String}{af:Array Edge}{g:Option (Nat×Bool)}{x y:Operand}
def qkm{T gg off:Nat}(hd:Nat.blt d nt=true)(hg:ax ops ⟨some d,.load T x,ty,pos,af,g⟩ t=some true)(hx:ev t x=some (.pointer (some ⟨gg,off,none⟩)))(h:LdG P (blank bl L) T gg off (fun v=>aX P bl ops rest ⟨nt,(d,v)::t,L⟩ K)):
 aX P bl ops (⟨some d,.load T x,ty,pos,af,g⟩::rest) ⟨nt,t,L⟩ K:=by
 obtain⟨j,b,i,u,v,h1,h2,h3,h4,h5,h6,h7⟩:=h;exact bn j off [u] hd hg h1 (by rw[hx];unfold aF.at;rw[h2];rfl) h3 h4 h5.symm (by rw[h5];rfl) h6 h7
def Hl{T gg off:Nat}{k:Value->Prop}{b:aF}{i:TI}{u v:Value}(j:Nat)(h1:L[j]? =some b)(h2:b.base=some gg)(h3:dU P T i=true)(h4:(b.cs.drop off).take i.size=[u])(h5:i.size=1)(h6:(bif i.agg then some (Value.agg #[u]) else some u)=some v)(h7:k v):LdG P L T gg off k:=
 ⟨j,b,i,u,v,h1,h2,h3,h4,h5,h6,h7⟩
def fA{T:Nat}{j gg off fo fs:Nat}{i:TI}(hd:Nat.blt d nt=true)(hg:ax ops ⟨some d,.fieldAddr T x j,ty,pos,af,g⟩ t=some true)(hx:ev t x=some (.pointer (some ⟨gg,off,none⟩)))(hi:dU P T i=true)
 (hf:i.flds[j]? =some (fo,fs+1)){off':Nat}(ho:off+fo=off')(h:aX P bl ops rest ⟨nt,(d,.pointer (some ⟨gg,off',none⟩))::t,L⟩ K):
 aX P bl ops (⟨some d,.fieldAddr T x j,ty,pos,af,g⟩::rest) ⟨nt,t,L⟩ K:=by
 subst ho;refine fM hd hg rfl (v:= .pointer (some ⟨gg,off+fo,none⟩)) (fun B a w hr=>?_) h;have h2:=hr.ev (x:=x) (v:= .pointer (some ⟨gg,off,none⟩)) hx;obtain⟨fs',f,h3,h4,h5,h6⟩:=Zf hi hf;simp only at h5 h6;have hsz:(sizeOf f.type).run P w= .ok (fs+1) w:=by
  cases hq:P.info? f.type with
  |none=>rw[hq] at h6;simp at h6
  |some inf=>rw[hq] at h6;simp at h6;simp[sizeOf,typeInfo,hq,h6]
 simp[execOp,h2,Instr.fieldAt,run_underlying h3,h4,Instr.sureAddr,fieldPlace,hsz,kJ,h5]
end
def A1{P Q:Prop}(q:Q)(h:Q->P:=by
 intro q
 first
  |with_reducible exact Vl q
  |with_reducible exact qir q
  |with_reducible exact TB q
  |with_reducible exact Xv q
  |with_reducible exact qf6 q
  |with_reducible exact qcC q
  |with_reducible exact Zl q
  |with_reducible exact qcD q
  |with_reducible exact qiw q
  |with_reducible exact qis q
  |with_reducible exact qit q
  |with_reducible exact qiu q
  |with_reducible exact qiv q
  |(with_reducible refine Zk ?_ q);rfl
  |(with_reducible refine Zj ?_ q);rfl
  |exact qgb rfl rfl rfl q
  |exact P6 rfl rfl rfl q
  |exact qkl rfl rfl rfl q
  |exact Zr rfl rfl rfl rfl rfl q
  |exact qcH rfl rfl rfl rfl q
  |exact qcG rfl rfl rfl rfl q
  |exact TC rfl rfl rfl q
  |exact qip rfl rfl rfl q
  |exact Zt rfl rfl rfl rfl q
  |exact Zu rfl rfl rfl rfl q
  |(refine qkm rfl rfl rfl ?_;first|exact Hl 0 rfl rfl (uG _) rfl rfl rfl q|exact Hl 1 rfl rfl (uG _) rfl rfl rfl q|exact Hl 2 rfl rfl (uG _) rfl rfl rfl q|exact Hl 3 rfl rfl (uG _) rfl rfl rfl q|exact Hl 4 rfl rfl (uG _) rfl rfl rfl q|exact Hl 5 rfl rfl (uG _) rfl rfl rfl q|exact Hl 6 rfl rfl (uG _) rfl rfl rfl q|exact Hl 7 rfl rfl (uG _) rfl rfl rfl q|exact Hl 8 rfl rfl (uG _) rfl rfl rfl q|exact Hl 9 rfl rfl (uG _) rfl rfl rfl q|exact Hl 10 rfl rfl (uG _) rfl rfl rfl q|exact Hl 11 rfl rfl (uG _) rfl rfl rfl q)
  |exact fA rfl rfl rfl (uG _) rfl rfl q
  |exact TM rfl rfl rfl q
  |exact Fh (vs:=[_,_]) rfl rfl rfl rfl q
  |exact Fh (vs:=[_,_,_]) rfl rfl rfl rfl q
  |exact Fh (vs:=[_,_,_,_]) rfl rfl rfl rfl q
  |exact qge (uA _) rfl rfl rfl q
  |exact qgj (uA _) rfl rfl rfl q
  |exact qiq rfl (uT _) rfl rfl q):P:=h q
def A2{P Q:Prop}(q:Q)(h:Q->P:=by intro q;refine A1 ?_;exact A1 q):P:=h q
def A3{P Q:Prop}(q:Q)(h:Q->P:=by intro q;refine A1 ?_;exact A2 q):P:=h q
def A4{P Q:Prop}(q:Q)(h:Q->P:=by intro q;refine A2 ?_;exact A2 q):P:=h q
def A5{P Q:Prop}(q:Q)(h:Q->P:=by intro q;refine A2 ?_;exact A3 q):P:=h q
def A6{P Q:Prop}(q:Q)(h:Q->P:=by intro q;refine A3 ?_;exact A3 q):P:=h q
def A7{P Q:Prop}(q:Q)(h:Q->P:=by intro q;refine A3 ?_;exact A4 q):P:=h q
def A8{P Q:Prop}(q:Q)(h:Q->P:=by intro q;refine A4 ?_;exact A4 q):P:=h q
def A9{P Q:Prop}(q:Q)(h:Q->P:=by intro q;refine A4 ?_;exact A5 q):P:=h q
def kL{P Q:Prop}(q:Q)(h:Q->P:=by intro q;refine A5 ?_;exact A5 q):P:=h q
def qf{P Q:Prop}(q:Q)(h:Q->P:=by intro q;refine A5 ?_;exact A6 q):P:=h q
def lK{P Q:Prop}(q:Q)(h:Q->P:=by intro q;refine A6 ?_;exact A6 q):P:=h q
def BC{P Q:Prop}(q:Q)(h:Q->P:=by intro q;refine A6 ?_;exact A7 q):P:=h q
def DV{P Q:Prop}(q:Q)(h:Q->P:=by intro q;refine A7 ?_;exact A7 q):P:=h q
def y8{P Q:Prop}(q:Q)(h:Q->P:=by intro q;refine A7 ?_;exact A8 q):P:=h q
def KZ{P Q:Prop}(q:Q)(h:Q->P:=by intro q;refine A8 ?_;exact A8 q):P:=h q
def Qe{P Q:Prop}(q:Q)(h:Q->P:=by intro q;refine A8 ?_;exact A9 q):P:=h q
def A18{P Q:Prop}(q:Q)(h:Q->P:=by intro q;refine A9 ?_;exact A9 q):P:=h q
def A19{P Q:Prop}(q:Q)(h:Q->P:=by intro q;refine A9 ?_;exact kL q):P:=h q
def A20{P Q:Prop}(q:Q)(h:Q->P:=by intro q;refine kL ?_;exact kL q):P:=h q
def A21{P Q:Prop}(q:Q)(h:Q->P:=by intro q;refine kL ?_;exact qf q):P:=h q
def A22{P Q:Prop}(q:Q)(h:Q->P:=by intro q;refine qf ?_;exact qf q):P:=h q
def A23{P Q:Prop}(q:Q)(h:Q->P:=by intro q;refine qf ?_;exact lK q):P:=h q
def A24{P Q:Prop}(q:Q)(h:Q->P:=by intro q;refine lK ?_;exact lK q):P:=h q
def A25{P Q:Prop}(q:Q)(h:Q->P:=by intro q;refine lK ?_;exact BC q):P:=h q
def A26{P Q:Prop}(q:Q)(h:Q->P:=by intro q;refine BC ?_;exact BC q):P:=h q
def A29{P Q:Prop}(q:Q)(h:Q->P:=by intro q;refine DV ?_;exact y8 q):P:=h q
def A30{P Q:Prop}(q:Q)(h:Q->P:=by intro q;refine y8 ?_;exact y8 q):P:=h q
section
variable{P:Program}{bl:List Nat}{ops:Array Oper}{K:St->Prop}{rest:List Oper}{nt:Nat}{t:List (Nat×Value)}{L:List aF}{d:Nat}{ty:TypeId}{pos:String}{af:Array Edge}{g:Option (Nat×Bool)}{x y:Operand}
def Ar{op:BinOp}{T U:Nat}{k:IntKind}{m n:Int}(r:Int)(h:aX P bl ops rest ⟨nt,(d,.int k r)::t,L⟩ K)(hd:Nat.blt d nt=true:=by rfl)(hg:ax ops ⟨some d,.binOp op T x y U,ty,pos,af,g⟩ t=some true:=by rfl)(hx:ev t x=some (.int k m):=by rfl)(hy:ev t y=some (.int k n):=by rfl)
 (hr:(match op with| .add=>some (k.wrap (m+n))| .sub=>some (k.wrap (m-n))| .mul=>some (k.wrap (m*n))|_=>none)=some r:=by first|exact congrArg some (wi (by omega) (by omega) (by omega))|exact congrArg some (oz _ rfl (by omega))):
 aX P bl ops (⟨some d,.binOp op T x y U,ty,pos,af,g⟩::rest) ⟨nt,t,L⟩ K:=Vp hd hg hx hy hr h
def Ix{T e:Nat}{k:IntKind}{i:Int}{b:aF}{off len cap:Nat}{inf:TI}(kk off':Nat)(h:aX P bl ops rest ⟨nt,(d,b.at off')::t,L⟩ K)(hT:P.underlying T=some (.slice e):=by exact uA _)(hinf:dU P e inf=true:=by exact uG _)(hd:Nat.blt d nt=true:=by rfl)(hg:ax ops ⟨some d,.indexAddr T x y,ty,pos,af,g⟩ t=some true:=by rfl)
 (hk:(blank bl L)[kk]? =some b:=by rfl)(hx:ev t x=some (aI b.base off len cap):=by rfl)(hy:ev t y=some (.int k i):=by rfl)(h0:0<=i:=by omega)(h1:i<len:=by omega)
 (hb:b.cs≠[]:=by first|exact List.cons_ne_nil _ _|exact kE (by rw[ah];omega)|exact kE (by omega)|exact tabC_ne (by decide)|exact SB_ne (by omega)|exact frmC_ne (by decide)|exact(fun e=>by have h8:=hR.1;have h9:=congrArg List.length e;rw[MG] at h9;simp only[List.length_nil] at h9;first|omega|(rw[List.length_set] at h9;omega))|exact(fun e=>by have h9:=congrArg List.length e;rw[MG] at h9;simp only[List.length_nil] at h9;first|omega|(rw[List.length_set] at h9;omega)))
 (ho:off+i.toNat*inf.size=off':=by first|(show 0+Int.toNat _*1=_;omega)|(show 0+Int.toNat _*3=_;omega)|(show 0+Int.toNat _*4=_;omega)|(show 0+Int.toNat _*2=_;omega)|(show 0+Int.toNat _*7=_;omega)):aX P bl ops (⟨some d,.indexAddr T x y,ty,pos,af,g⟩::rest) ⟨nt,t,L⟩ K:=
 au kk off' hT hinf hd hg hk hx hy h0 h1 hb ho h
def Gm{f:Nat}{args:List Operand}{ts:Array TypeId}{dst:Option Nat}{vs:List Value}{AC:List aF}{X:Type}{res:X->Value}{L1:X->List aF}(n:Nat)(ks is:List Nat)(mk:X->List aF)(hc:yx P f AC vs X res L1)
 (h:∀x,aX P bl ops rest (({nt:=nt,t:=t,L:=mk x}:St).put dst (res x)) K)
 (hM:Il bl=true:=by rfl)(hd:(match(generalizing:=false) dst with|some d=>Nat.blt d nt|none=>true)=true:=by rfl)
 (hg:ax ops ⟨dst,.call {callee:= .value (.func f),args:=args.toArray,argTypes:=ts},ty,pos,af,g⟩ t=some true:=by rfl)
 (hv:args.map (ev t)=vs.map some:=by rfl)(hn:ks.Nodup:=by decide)(hk:ks.map (fun k=>L[k]?)=(AC.take n).map some:=by rfl)(hA:((AC.take n).all fun b=>b.own&&(Nat.blt b.e bW||b.base.isSome))=true:=by rfl)
 (hp:iJ L (is.map some) (AC.drop n):=by repeat (first|exact trivial|refine⟨⟨_,rfl,aF.le_refl _⟩,?_⟩))
 (hC:((AC.drop n).all fun b=> !b.own)=true:=by rfl)(hap:kK ((ks++is).map some) (AC.map (·.own))=true:=by rfl)
 (hlen:∀x,Nat.ble ks.length (L1 x).length=true:=by exact(fun _=>rfl))(hown:∀x,∀b∈L1 x,b.own=true∨∃a∈AC.take n,a.base=b.base∧b.base.isSome=true:=by exact(fun _=>Oi rfl))(hL:∀x,setG L ks (L1 x)=mk x:=by exact(fun _=>rfl)):
 aX P bl ops (⟨dst,.call {callee:= .value (.func f),args:=args.toArray,argTypes:=ts},ty,pos,af,g⟩::rest) ⟨nt,t,L⟩ K:=
 ZI vs (A:=AC.take n) (C:=AC.drop n) ks is mk hM hd hg hv (by rw[List.take_append_drop];exact hc) hn hk hA hp hC (by rw[List.take_append_drop];exact hap) hlen hown hL h
def Pc{f:Nat}{args:List Operand}{ts:Array TypeId}{vs:List Value}{v:Value}(hc:aH P f vs.toArray v)(h:aX P bl ops rest ⟨nt,(d,v)::t,L⟩ K)(hd:Nat.blt d nt=true:=by rfl)(hg:ax ops ⟨some d,.call {callee:= .value (.func f),args:=args.toArray,argTypes:=ts},ty,pos,af,g⟩ t=some true:=by rfl)
 (hv:args.map (ev t)=vs.map some:=by rfl):
 aX P bl ops (⟨some d,.call {callee:= .value (.func f),args:=args.toArray,argTypes:=ts},ty,pos,af,g⟩::rest) ⟨nt,t,L⟩ K:=bY vs hd hg hv hc h
def So{T:Nat}{i:TI}{gg e n:Nat}{cs:List Value}{v:Value}(k off:Nat)(L':List aF)(cs':List Value)(h:aX P bl ops rest ⟨nt,t,L'⟩ K)(hbl:Fa bl=false:=by rfl)(hg:ax ops ⟨none,.store T x y,ty,pos,af,g⟩ t=some true:=by rfl)(hk:L[k]? =some ⟨some gg,e,cs,n,true⟩:=by rfl)(hx:ev t x=some (.pointer (some ⟨gg,off,none⟩)):=by rfl)
 (hy:ev t y=some v:=by rfl)(hi:dU P T i=true:=by exact uG _)(hsz:v.cells.size=i.size:=by rfl)(hfit:Nat.ble (off+i.size) cs.length=true:=by rfl)(h1:(v.cells.toList.all fun u=>u.oneCell')=true:=by rfl)(hcs:cs.take off++v.cells.toList++cs.drop (off+i.size)=cs':=by rfl)(hL:L.set k ⟨some gg,e,cs',n,true⟩=L':=by rfl)
 (hpos:Nat.blt 0 i.size=true:=by rfl):aX P bl ops (⟨none,.store T x y,ty,pos,af,g⟩::rest) ⟨nt,t,L⟩ K:=xH hbl k off L' cs' hg hk hx hy hi hsz hfit h1 hcs hL h hpos
def Bo{T:Nat}{v:Value}(cs:List Value)(n:Nat)(mk:Nat->List aF)(h:∀b,aX P bl ops rest ⟨nt,(d,.pointer (some ⟨b,0,none⟩))::t,mk b⟩ K)(hd:Nat.blt d nt=true:=by rfl)(hg:ax ops ⟨some d,.box T x,ty,pos,af,g⟩ t=some true:=by rfl)(hx:ev t x=some v:=by rfl)(hcs:v.cells.toList=cs:=by rfl)(hn:v.cells.size=n:=by rfl)
 (hL:∀b,L++[⟨some b,T,cs,n,true⟩]=mk b:=by exact(fun _=>rfl))(hT:Nat.blt T bW=true:=by rfl):aX P bl ops (⟨some d,.box T x,ty,pos,af,g⟩::rest) ⟨nt,t,L⟩ K:=qfp cs n mk hd hg hx hcs hn hL h hT
def yz{n:Nat}{listed:Array Bool}{s:St}{K:St->Prop}{o:Oper}(i:Nat)(h:aX P [1000000] ops [o] s (fun s'=>yX P ops K n (listed.setIfInBounds i true) s'))(h1:Region.ready .any ops listed=[i]:=by kernel_rfl)(ho:ops[i]? =some o:=by rfl):yX P ops K (n+1) listed s:=
 vI [i] h1 rfl ⟨⟨_,ho,h⟩,trivial⟩
def XE{n:Nat}{listed:Array Bool}{s:St}{K:St->Prop}{o o':Oper}(i j:Nat)(h:aX P [1000000] ops [o] s (fun s'=>yX P ops K n (listed.setIfInBounds i true) s'))(h':aX P [1000000] ops [o'] s (fun s'=>yX P ops K n (listed.setIfInBounds j true) s'))
 (h1:Region.ready .any ops listed=[i,j]:=by kernel_rfl)(ho:ops[i]? =some o:=by rfl)(ho':ops[j]? =some o':=by rfl):yX P ops K (n+1) listed s:=
 vI [i,j] h1 rfl ⟨⟨_,ho,h⟩,⟨_,ho',h'⟩,trivial⟩
def Tn3{n:Nat}{listed:Array Bool}{s:St}{K:St->Prop}{o o' u:Oper}(i j k:Nat)(h:aX P [1000000] ops [o] s (fun s'=>yX P ops K n (listed.setIfInBounds i true) s'))(h':aX P [1000000] ops [o'] s (fun s'=>yX P ops K n (listed.setIfInBounds j true) s'))(hu:aX P [1000000] ops [u] s (fun s'=>yX P ops K n (listed.setIfInBounds k true) s'))
 (h1:Region.ready .any ops listed=[i,j,k]:=by kernel_rfl)(ho:ops[i]? =some o:=by rfl)(ho':ops[j]? =some o':=by rfl)(ho2:ops[k]? =some u:=by rfl):yX P ops K (n+1) listed s:=
 vI [i,j,k] h1 rfl ⟨⟨_,ho,h⟩,⟨_,ho',h'⟩,⟨_,ho2,hu⟩,trivial⟩
end
section
variable{P:Program}{B:Bs}{Q:Exit->Act->World->Prop}{nt:Nat}{t:List (Nat×Value)}{L:List aF}{ι:Type}{c:Code}
abbrev SL:=List (Nat×Value)×List aF×Nat
def xJ{L L':List aF}(ks:List (Option Nat))(hp:iJ L ks L':=by repeat (first|exact trivial|refine⟨⟨_,rfl,aF.le_refl _⟩,?_⟩))(hl:ks.length=L'.length:=by rfl)(ha:kK ks (L'.map (·.own))=true:=by rfl):eF L L':=aj ks hp hl ha
def aT.pk{B:Bs}{w:World}{L L':List aF}(h:aT B L w)(ks:List (Option Nat))(hp:iJ L ks L':=by repeat (first|exact trivial|refine⟨⟨_,rfl,aF.le_refl _⟩,?_⟩))(hl:ks.length=L'.length:=by rfl)(ha:kK ks (L'.map (·.own))=true:=by rfl):aT B L' w:=h.picks ks hp hl ha
def eF.auto{L L':List aF}(h:eF L L':=by
 first
  |exact aj [some 0] ⟨⟨_,rfl,aF.le_refl _⟩,trivial⟩ rfl rfl
  |exact aj [some 0,some 1] ⟨⟨_,rfl,aF.le_refl _⟩,⟨_,rfl,aF.le_refl _⟩,trivial⟩ rfl rfl
  |exact aj [some 0,some 1,some 2] ⟨⟨_,rfl,aF.le_refl _⟩,⟨_,rfl,aF.le_refl _⟩,⟨_,rfl,aF.le_refl _⟩,trivial⟩ rfl rfl
  |exact aj [some 0,some 1,some 2,some 3] ⟨⟨_,rfl,aF.le_refl _⟩,⟨_,rfl,aF.le_refl _⟩,⟨_,rfl,aF.le_refl _⟩,⟨_,rfl,aF.le_refl _⟩,trivial⟩ rfl rfl
  |exact aj [some 0,some 1,some 2,some 3,some 4] ⟨⟨_,rfl,aF.le_refl _⟩,⟨_,rfl,aF.le_refl _⟩,⟨_,rfl,aF.le_refl _⟩,⟨_,rfl,aF.le_refl _⟩,⟨_,rfl,aF.le_refl _⟩,trivial⟩ rfl rfl
  |exact aj [some 0,some 1,some 2,some 3,some 4,some 5] ⟨⟨_,rfl,aF.le_refl _⟩,⟨_,rfl,aF.le_refl _⟩,⟨_,rfl,aF.le_refl _⟩,⟨_,rfl,aF.le_refl _⟩,⟨_,rfl,aF.le_refl _⟩,⟨_,rfl,aF.le_refl _⟩,trivial⟩ rfl rfl
  |exact aj [some 0,some 1,some 2,some 3,some 4,some 5,some 6] ⟨⟨_,rfl,aF.le_refl _⟩,⟨_,rfl,aF.le_refl _⟩,⟨_,rfl,aF.le_refl _⟩,⟨_,rfl,aF.le_refl _⟩,⟨_,rfl,aF.le_refl _⟩,⟨_,rfl,aF.le_refl _⟩,⟨_,rfl,aF.le_refl _⟩,trivial⟩ rfl rfl
  |exact aj [some 0,some 1,some 2,some 3,some 4,some 5,some 6,some 7] ⟨⟨_,rfl,aF.le_refl _⟩,⟨_,rfl,aF.le_refl _⟩,⟨_,rfl,aF.le_refl _⟩,⟨_,rfl,aF.le_refl _⟩,⟨_,rfl,aF.le_refl _⟩,⟨_,rfl,aF.le_refl _⟩,⟨_,rfl,aF.le_refl _⟩,⟨_,rfl,aF.le_refl _⟩,trivial⟩ rfl rfl
  |exact aj [some 0,some 1,some 2,some 3,some 4,some 5,some 6,some 7,some 8] ⟨⟨_,rfl,aF.le_refl _⟩,⟨_,rfl,aF.le_refl _⟩,⟨_,rfl,aF.le_refl _⟩,⟨_,rfl,aF.le_refl _⟩,⟨_,rfl,aF.le_refl _⟩,⟨_,rfl,aF.le_refl _⟩,⟨_,rfl,aF.le_refl _⟩,⟨_,rfl,aF.le_refl _⟩,⟨_,rfl,aF.le_refl _⟩,trivial⟩ rfl rfl):eF L L':=h
def El(S:ι->SL)(i₀:ι)(round:∀i,At B ⟨nt,(S i).1,(S i).2.1⟩ (c.wp P (Exit.then (Nxt B nt (fun i=>(S i).1) (fun i=>(S i).2.1) (fun i=>(S i).2.2) i) Q)))
 (ht:jE t (S i₀).1:=by repeat (first|exact trivial|refine⟨rfl,?_⟩))(hL:eF L (S i₀).2.1:=by exact eF.refl _):At B ⟨nt,t,L⟩ ((Code.loop c).wp P Q):=qgg _ _ _ i₀ ht hL round
def Nl{T:ι->List (Nat×Value)}{LL:ι->List aF}{μ:ι->Nat}{i:ι}(j:ι)(hμ:μ j<μ i:=by first|(simp only[];omega)|(dsimp only;omega))
 (ht:jE t (T j):=by repeat (first|exact trivial|refine⟨rfl,?_⟩))(hL:eF L (LL j):=by exact eF.refl _):At B ⟨nt,t,L⟩ (Nxt B nt T LL μ i):=qiy j hμ ht hL
end
section
variable{P:Program}{f:Nat}{fn:Func}{c:Code}{B:Bs}{w:World}{R:Ending->World->Prop}{L:List aF}
def cB0(nt:Nat)(hf:P.funcs[f]? =some fn)(hL:aT B L w)(h:At B ⟨nt,[],L⟩ (c.wp P (bodyPost P fn R)))(hb:fn.body=some c:=by rfl)(hnt:fn.ntmps=nt:=by rfl)(hn:Nat.ble 0 fn.ntmps=true:=by rfl)(hD:B.D=[]:=by first|rfl|assumption):Calls P f #[] w R:=
 sQ (args:=[]) hf hb (Nat.le_of_ble_eq_true hn) hL (by subst hnt;exact h) hD
def cB1{v0:Value}(nt:Nat)(hf:P.funcs[f]? =some fn)(hL:aT B L w)(h:At B ⟨nt,[(0,v0)],L⟩ (c.wp P (bodyPost P fn R)))(hb:fn.body=some c:=by rfl)(hnt:fn.ntmps=nt:=by rfl)(hn:Nat.ble 1 fn.ntmps=true:=by rfl)(hD:B.D=[]:=by first|rfl|assumption):Calls P f #[v0] w R:=
 sQ (args:=[v0]) hf hb (Nat.le_of_ble_eq_true hn) hL (by subst hnt;exact h) hD
def cB2{v0 v1:Value}(nt:Nat)(hf:P.funcs[f]? =some fn)(hL:aT B L w)(h:At B ⟨nt,[(0,v0),(1,v1)],L⟩ (c.wp P (bodyPost P fn R)))(hb:fn.body=some c:=by rfl)(hnt:fn.ntmps=nt:=by rfl)(hn:Nat.ble 2 fn.ntmps=true:=by rfl)(hD:B.D=[]:=by first|rfl|assumption):Calls P f #[v0,v1] w R:=
 sQ (args:=[v0,v1]) hf hb (Nat.le_of_ble_eq_true hn) hL (by subst hnt;exact h) hD
def cB3{v0 v1 v2:Value}(nt:Nat)(hf:P.funcs[f]? =some fn)(hL:aT B L w)(h:At B ⟨nt,[(0,v0),(1,v1),(2,v2)],L⟩ (c.wp P (bodyPost P fn R)))(hb:fn.body=some c:=by rfl)(hnt:fn.ntmps=nt:=by rfl)(hn:Nat.ble 3 fn.ntmps=true:=by rfl)(hD:B.D=[]:=by first|rfl|assumption):Calls P f #[v0,v1,v2] w R:=
 sQ (args:=[v0,v1,v2]) hf hb (Nat.le_of_ble_eq_true hn) hL (by subst hnt;exact h) hD
def cB4{v0 v1 v2 v3:Value}(nt:Nat)(hf:P.funcs[f]? =some fn)(hL:aT B L w)(h:At B ⟨nt,[(0,v0),(1,v1),(2,v2),(3,v3)],L⟩ (c.wp P (bodyPost P fn R)))(hb:fn.body=some c:=by rfl)(hnt:fn.ntmps=nt:=by rfl)(hn:Nat.ble 4 fn.ntmps=true:=by rfl)(hD:B.D=[]:=by first|rfl|assumption):Calls P f #[v0,v1,v2,v3] w R:=
 sQ (args:=[v0,v1,v2,v3]) hf hb (Nat.le_of_ble_eq_true hn) hL (by subst hnt;exact h) hD
def cB5{v0 v1 v2 v3 v4:Value}(nt:Nat)(hf:P.funcs[f]? =some fn)(hL:aT B L w)(h:At B ⟨nt,[(0,v0),(1,v1),(2,v2),(3,v3),(4,v4)],L⟩ (c.wp P (bodyPost P fn R)))(hb:fn.body=some c:=by rfl)(hnt:fn.ntmps=nt:=by rfl)(hn:Nat.ble 5 fn.ntmps=true:=by rfl)(hD:B.D=[]:=by first|rfl|assumption):Calls P f #[v0,v1,v2,v3,v4] w R:=
 sQ (args:=[v0,v1,v2,v3,v4]) hf hb (Nat.le_of_ble_eq_true hn) hL (by subst hnt;exact h) hD
end
end Go.Via
namespace Go.Via
variable[Mo]
open Go Go.RowKit
section
variable{P:Program}{bl:List Nat}{ops:Array Oper}{nt:Nat}{t:List (Nat×Value)}{L:List aF}{B:Bs}{rest:List Oper}{K:St->Prop}{ty:TypeId}{pos:String}{af:Array Edge}{g:Option (Nat×Bool)}{d:Nat}
def Cd{s:St}{Q:Exit->Act->World->Prop}{c:Operand}{x y:Code}{b:Bool}(h1:b=true->At B s (x.wp P Q))(h2:b=false->At B s (y.wp P Q))(hc:ev s.t c=some (.bool b):=by rfl):At B s ((Code.cond c x y).wp P Q):=qcB hc h1 h2
def Rs{X:Act->World->Prop}{l:List Oper}{b:Bool}(d:Nat)(hT:b=true->aX P bl ops l ⟨nt,(d,.bool true)::t,L⟩ (fun s'=>At B s' X))(hF:b=false->aX P bl ops l ⟨nt,(d,.bool false)::t,L⟩ (fun s'=>At B s' X))
 (hx:look t d=some (.bool b):=by rfl):aX P bl ops l ⟨nt,t,L⟩ (fun s'=>At B s' X):=qcJ d hx hT hF
def Ld{T:Nat}{x:Operand}{i:TI}{b:aF}{v:Value}(k off:Nat)(vs:List Value)(hi:dU P T i=true)(h:aX P bl ops rest ⟨nt,(d,v)::t,L⟩ K)
 (hd:Nat.blt d nt=true:=by rfl)(hg:ax ops ⟨some d,.load T x,ty,pos,af,g⟩ t=some true:=by rfl)(hk:(blank bl L)[k]? =some b:=by rfl)(hx:ev t x=some (b.at off):=by rfl)
 (hvs:(b.cs.drop off).take i.size=vs:=by rfl)(hlen:vs.length=i.size:=by rfl)(hpos:Nat.blt 0 i.size=true:=by rfl)(hv:(bif i.agg then some (.agg vs.toArray) else vs[0]?)=some v:=by rfl):
 aX P bl ops (⟨some d,.load T x,ty,pos,af,g⟩::rest) ⟨nt,t,L⟩ K:=bn k off vs hd hg hk hx hi hvs hlen hpos hv h
def Kr{X:Act->World->Prop}{l:List Oper}{v:Value}(d:Nat)(v':Value)(h:aX P bl ops l ⟨nt,(d,v')::t,L⟩ (fun s'=>At B s' X))(hx:look t d=some v:=by rfl)(hv:v=v':=by rfl):aX P bl ops l ⟨nt,t,L⟩ (fun s'=>At B s' X):=aW d v' hx hv h
def E1{fn:Func}{R:Ending->World->Prop}{s:St}{d:Nat}{v:Value}(hR:∀w,aT B s.L w->R (.returned v) w)(hfn:fn.results= #[.tmp d]:=by rfl)(h:look s.t d=some v:=by rfl)(hD:B.D=[]:=by first|rfl|assumption):At B s (bodyPost P fn R .ret):=
 aO hfn (ai h) hR hD
def eB{a b:Bool}(h:a=b):Ending.returned (.bool a)=Ending.returned (.bool b):=by rw[h]
end
end Go.Via
namespace Go.Via
variable[Mo]
open Go Go.RowKit
def ZJ(P:Program)(f:Nat)(L0:List aF)(args:List Value)(X:Type)(res:X->Value)(L1:X->List aF):Prop:=
 iF P f=true∧∀(B:Bs) (w:World),B.D=[]->aT B L0 w->CallsD P f args.toArray .returning w fun e u' w'=>u'= .returning∧∃x,e= .returned (res x)∧aT B (L1 x) w'
theorem ZJ.at{P:Program}{f:Nat}{L A C:List aF}{args:List Value}{X:Type}{res:X->Value}{L1:X->List aF}(hc:ZJ P f (A++C) args X res L1)(ks is:List Nat)(hn:ks.Nodup)(hk:ks.map (fun k=>L[k]?)=A.map some)
 (hA:(A.all fun b=>b.own&&(Nat.blt b.e bW||b.base.isSome))=true)(hp:iJ L (is.map some) C)(hC:(C.all fun b=> !b.own)=true)(hap:kK ((ks++is).map some) ((A++C).map (·.own))=true)(hlen:∀x,Nat.ble ks.length (L1 x).length=true)(hown:∀x,∀b∈L1 x,b.own=true∨∃a∈A,a.base=b.base∧b.base.isSome=true)
 {B:Bs}{w:World}(h:aT B L w):CallsD P f args.toArray .returning w fun e u' w'=>u'= .returning∧∃x,e= .returned (res x)∧aT B (setG L ks (L1 x)) w':=by
 obtain⟨B',hD,h2,hb⟩:=Jh ks is hn hk hA hp hC hap h;refine(hc.2 B' w hD h2).mono ?_;rintro e u' w' ⟨hu,x,rfl,hx⟩;exact⟨hu,x,rfl,hb _ _ (hlen x) (hown x) hx⟩
end Go.Via
namespace Go.Via
def val(B:Nat):List Nat->Nat
 |[]=>0
 |d::l=>d+B*val B l
@[simp] theorem qj2 (B:Nat):val B []=0:=rfl
@[simp] theorem qZ (B d:Nat) (l:List Nat):val B (d::l)=d+B*val B l:=rfl
def ag(B n:Nat):List Nat:=
 if _h:n=0∨B<2 then[] else n%B::ag B (n/B)
 termination_by n
 decreasing_by exact Nat.div_lt_self (by omega) (by omega)
theorem ja(B:Nat):ag B 0=[]:=by unfold ag;simp
theorem rf{B n:Nat}(hB:2<=B)(hn:n≠0):ag B n=n%B::ag B (n/B):=by
 conv=>lhs;unfold ag
 rw[dif_neg (by omega)]
theorem rq{B:Nat}(hB:2<=B)(n:Nat):val B (ag B n)=n:=by
 induction n using Nat.strongRecOn with
 |_ n ih=>
  by_cases hn:n=0
  ·subst hn;simp[ja]
  ·rw[rf hB hn,qZ,ih _ (Nat.div_lt_self (by omega) (by omega))];exact Nat.mod_add_div n B
theorem Au{B n:Nat}(hB:2<=B):∀d∈ag B n,d<B:=by
 induction n using Nat.strongRecOn with
 |_ n ih=>
  by_cases hn:n=0
  ·subst hn;simp[ja]
  ·rw[rf hB hn];intro d hd;rcases List.mem_cons.1 hd with rfl|hd
   ·exact Nat.mod_lt _ (by omega)
   ·exact ih _ (Nat.div_lt_self (by omega) (by omega)) d hd
def uM(l:List Nat):Prop:=l.getLast? ≠some 0
def LW:uM []:=by simp[uM]
theorem Ji{d:Nat}{l:List Nat}(h:uM (d::l)):uM l:=by
 cases l with
 |nil=>exact LW
 |cons e l=>simpa[uM,List.getLast?_cons_cons] using h
def wI{B:Nat}(hB:2<=B):∀{l:List Nat},uM l->l≠[]->0<val B l
 |[],_,h=>absurd rfl h
 |[d],h,_=>by
  simp[uM] at h;simp;omega
 |d::e::l,h,_=>by
  have:=wI hB (Ji h) (by simp);rw[qZ];have:0<B*val B (e::l):=Nat.mul_pos (by omega) this;omega
theorem Jj{B:Nat}(hB:2<=B):∀{l:List Nat},(∀d∈l,d<B)->uM l->ag B (val B l)=l
 |[],_,_=>by simp[ja]
 |d::l,hl,hc=>by
  have hp:=wI hB hc (by simp);rw[rf hB (by omega)];have hd:=hl d (by simp);have e1:val B (d::l)%B=d:=(by rw[qZ,Nat.add_mul_mod_self_left];exact Nat.mod_eq_of_lt hd);have e2:val B (d::l)/B=val B l:=by
   rw[qZ,Nat.add_mul_div_left _ _ (by omega),Nat.div_eq_of_lt hd];omega
  rw[e1,e2,Jj hB (fun x hx=>hl x (by simp[hx])) (Ji hc)]
def TU{B:Nat}(hB:2<=B)(n:Nat):uM (ag B n):=by
 induction n using Nat.strongRecOn with
 |_ n ih=>
  by_cases hn:n=0
  ·subst hn;rw[ja];exact LW
  ·rw[rf hB hn];have h2:=ih _ (Nat.div_lt_self (n:=n) (k:=B) (by omega) (by omega));cases hd:ag B (n/B) with
   |nil=>
    have h0:n/B=0:=(by rw[<-rq hB (n/B),hd];rfl);have:n<B:=by
     rcases Nat.div_eq_zero_iff.1 h0 with h|h
     ·omega
     ·exact h
    simp[uM,Nat.mod_eq_of_lt this];exact hn
   |cons e l=>rw[hd] at h2;simpa[uM,List.getLast?_cons_cons] using h2
theorem qg(B:Nat)(a b:List Nat):val B (a++b)=val B a+B^a.length*val B b:=by
 induction a with
 |nil=>simp
 |cons d a ih=>
  rw[List.cons_append,qZ,ih,qZ,List.length_cons,Nat.pow_succ,Nat.mul_add,
 show B^a.length*B*val B b=B*(B^a.length*val B b) by rw[Nat.mul_comm (B^a.length) B,Nat.mul_assoc]]
  omega
def FH{B:Nat}(hB:1<=B):∀{l:List Nat},(∀d∈l,d<B)->val B l<B^l.length
 |[],_=>by simp
 |d::l,hl=>by
  have h1:=FH hB (l:=l) (fun x hx=>hl x (by simp[hx]));have hd:=hl d (by simp);rw[qZ,List.length_cons,Nat.pow_succ];have:B*val B l+B<=B^l.length*B:=by
   have:=Nat.mul_le_mul_left B (Nat.succ_le_of_lt h1);rw[Nat.mul_comm (B^l.length) B];rw[Nat.mul_succ] at this;exact this
  omega
def je{B:Nat}(hB:2<=B){n k:Nat}(h:n<B^k):(ag B n).length<=k:=by
 induction k generalizing n with
 |zero=>simp at h;subst h;simp[ja]
 |succ k ih=>
  by_cases hn:n=0
  ·subst hn;simp[ja]
  ·rw[rf hB hn,List.length_cons];have:=ih (n:=n/B) (by rw[Nat.div_lt_iff_lt_mul (by omega)];rwa [Nat.pow_succ] at h);omega
theorem dP{B:Nat}(hB:2<=B)(n:Nat):n<B^(ag B n).length:=by
 have:=FH (B:=B) (by omega) (l:=ag B n) (Au hB)
 rwa [rq hB] at this
def Oj{B:Nat}(hB:2<=B){n k:Nat}(h:B^k<=n):k<(ag B n).length:=by
 have h1:=dP hB n;rcases Nat.lt_or_ge k (ag B n).length with h2|h2
 ·exact h2
 ·have:=Nat.pow_le_pow_right (n:=B) (by omega) h2;omega
theorem lm{B:Nat}(hB:2<=B)(n i:Nat)(hi:i<(ag B n).length):(ag B n)[i]? =some (n/B^i%B):=by
 induction i generalizing n with
 |zero=>
  by_cases hn:n=0
  ·subst hn;simp[ja] at hi
  ·rw[rf hB hn];simp
 |succ i ih=>
  by_cases hn:n=0
  ·subst hn;simp[ja] at hi
  ·rw[rf hB hn] at hi ⊢;rw[List.getElem?_cons_succ,ih _ (by simpa using hi),Nat.div_div_eq_div_mul,Nat.pow_succ,Nat.mul_comm B]
end Go.Via
namespace Go.Via
theorem La(B:Nat)(l:List Nat)(k:Nat)(hk:k<l.length):val B (l.take (k+1))=val B (l.take k)+B^k*l[k]:=by
 rw[List.take_succ_eq_append_getElem hk,qg];simp[List.length_take,Nat.min_eq_left (Nat.le_of_lt hk)]
theorem Qg(B:Nat)(l:List Nat)(d:Nat):val B (l++[d])=val B l+B^l.length*d:=by
 rw[qg];simp
def Ci(B n:Nat):val B (List.replicate n 0)=0:=by
 induction n with
 |zero=>rfl
 |succ n ih=>simp[List.replicate_succ,ih]
theorem Qh{p:Nat->Prop}{l:List Nat}(h:∀d∈l,p d)(k:Nat):∀d∈l.take k,p d:=
 fun d hd=>h d (List.mem_of_mem_take hd)
theorem Qi{B:Nat}(hB:2<=B){l:List Nat}(hl:∀d∈l,d<B){n:Nat}(hn:n<=l.length)(hv:val B (l.take n)=val B l)
 (hz:n=0∨∃h:n-1<l.length,l[n-1]≠0):l.take n=ag B (val B l):=by
 rw[<-hv,Jj hB (Qh hl n)];unfold uM;rcases hz with rfl|⟨h,hne⟩
 ·simp
 ·rw[List.getLast?_eq_getElem?,List.length_take,Nat.min_eq_left hn]
  by_cases h0:n=0
  ·subst h0;simp
  ·rw[List.getElem?_take,if_pos (by omega),List.getElem?_eq_getElem h]
   simpa using hne
def XF{B:Nat}{l:List Nat}{n:Nat}(hn:n+1<=l.length)(hv:val B (l.take (n+1))=val B l)(hz:l[n]=0):val B (l.take n)=val B l:=by
 rw[La B l n (by omega),hz] at hv
 simpa using hv
def Cj{B:Nat}(hB:2<=B){a b:Nat}(h:(ag B a).length<(ag B b).length):a<b:=by
 have h1:=dP hB a;rcases Nat.lt_or_ge a b with h2|h2
 ·exact h2
 ·have:=je hB (n:=b) (k:=(ag B a).length) (by omega);omega
def qh{B:Nat}(hB:2<=B){a b:Nat}(h:a<=b):(ag B a).length<=(ag B b).length:=
 je hB (Nat.lt_of_le_of_lt h (dP hB b))
theorem uO{B:Nat}(hB:2<=B){n:Nat}:ag B n=[]↔n=0:=by
 constructor
 ·intro h;have:=rq hB n;rw[h] at this;exact this.symm
 ·rintro rfl;exact ja B
theorem y9{B:Nat}(hB:2<=B){d:Nat}(h0:d≠0)(h:d<B):ag B d=[d]:=by
 rw[rf hB h0,Nat.mod_eq_of_lt h,Nat.div_eq_of_lt h,ja]
end Go.Via
namespace Go.Via
def TV{B Y y1 y2 Yr X high x2 Xr P g rest:Nat}(hP:0<P)(hY:Y=(y1*B+y2)*P+Yr)(hX:X=(high*B+x2)*P+Xr)(hXr:Xr<P)
 (hg:g*y1+rest=high)(hyp:0<Y)(ht:g*y2>rest*B+x2):X/Y<g:=by
 rw[Nat.div_lt_iff_lt_mul hyp];have h1:g*(y1*B+y2)=g*y1*B+g*y2:=by grind
 have h2:(high*B+x2)+1<=g*(y1*B+y2):=by
  rw[h1,<-hg];have:(g*y1+rest)*B=g*y1*B+rest*B:=by grind
  omega
 have h3:=Nat.mul_le_mul_right P h2;have h4:g*Y=g*(y1*B+y2)*P+g*Yr:=(by rw[hY];grind);have h5:(high*B+x2+1)*P=(high*B+x2)*P+P:=(by grind);omega
def Qj{B Y y1 y2 Yr X high x2 Xr P:Nat}(_hP:0<P)(hY:Y=(y1*B+y2)*P+Yr)(hX:X=(high*B+x2)*P+Xr)(hXr:Xr<P)(hx2:x2<B)
 (hy1:0<y1)(hyp:0<Y):X/Y<=high/y1:=by
 have h0:X/Y<high/y1+1:=by
  rw[Nat.div_lt_iff_lt_mul hyp];have h1:high+1<=(high/y1+1)*y1:=by
   have:=Nat.div_add_mod high y1;have:=Nat.mod_lt high hy1;have:(high/y1+1)*y1=y1*(high/y1)+y1:=(by grind);omega
  have h2:=Nat.mul_le_mul_right (B*P) h1;have h3:(high/y1+1)*Y=(high/y1+1)*y1*(B*P)+(high/y1+1)*(y2*P+Yr):=(by rw[hY];grind);have h4:(high+1)*(B*P)=high*B*P+B*P:=(by grind);have h5:(high*B+x2)*P=high*B*P+x2*P:=(by grind);have h6:(x2+1)*P<=B*P:=Nat.mul_le_mul_right P hx2;have h7:(x2+1)*P=x2*P+P:=(by grind);omega
 omega
def LX{B Y y1 y2 Yr X high x2 Xr P g rest:Nat}(hY:Y=(y1*B+y2)*P+Yr)(hX:X=(high*B+x2)*P+Xr)
 (hYr:Yr<P)(hy1:0<y1)(hy2:y2<B)(hg:g*y1+rest=high)(hyp:0<Y)(hgB:g<=B)(ht:g*y2<=rest*B+x2∨B<=rest):g<=X/Y+1:=by
 have h1:g*(y1*B+y2)<=high*B+x2:=by
  have e1:g*(y1*B+y2)=g*y1*B+g*y2:=(by grind);have e2:high*B=g*y1*B+rest*B:=(by rw[<-hg];grind);rcases ht with h|h
  ·omega
  ·have a1:g*y2<=B*y2:=Nat.mul_le_mul_right _ hgB;have a2:B*y2<=B*B:=Nat.mul_le_mul_left _ (by omega);have a3:B*B<=rest*B:=Nat.mul_le_mul_right _ h;omega
 have h2:=Nat.mul_le_mul_right P h1;have h3:g*Y=g*(y1*B+y2)*P+g*Yr:=(by rw[hY];grind);have h4:g*Yr<=g*P:=Nat.mul_le_mul_left _ (by omega);have h5:g*P<=B*P:=Nat.mul_le_mul_right _ hgB;have h6:B*P<=Y:=by
  have b1:1*(B*P)<=y1*(B*P):=Nat.mul_le_mul_right _ hy1;have b2:Y=y1*(B*P)+(y2*P+Yr):=(by rw[hY];grind);omega
 have h7:g*Y<=X+Y:=(by omega);rcases Nat.lt_or_ge (X/Y+1) g with h|h
 ·exfalso
  have c1:(X/Y+2)*Y<=g*Y:=Nat.mul_le_mul_right _ h;have c2:(X/Y+2)*Y=Y*(X/Y)+Y+Y:=(by grind);have c3:=Nat.div_add_mod X Y;have c4:=Nat.mod_lt X hyp;omega
 ·exact h
def qcU{B Y y1 y2 Yr X high x2 Xr P:Nat}(hY:Y=(y1*B+y2)*P+Yr)(hX:X=(high*B+x2)*P+Xr)(hYr:Yr<P)
 (hy2:y2<B)(hXY:X<B*Y):high<(y1+1)*B:=by
 rcases Nat.lt_or_ge high ((y1+1)*B) with h|h
 ·exact h
 ·exfalso
  have h1:=Nat.mul_le_mul_right (B*P) h;have h2:X=high*(B*P)+(x2*P+Xr):=(by rw[hX];grind);have h3:(y1+1)*B*(B*P)=B*(y1*B*P+B*P):=(by grind);have h4:Y<=y1*B*P+B*P:=by
   have:(y2+1)*P<=B*P:=Nat.mul_le_mul_right _ hy2;have e1:(y2+1)*P=y2*P+P:=(by grind);have e2:(y1*B+y2)*P=y1*B*P+y2*P:=(by grind);omega
  have h5:=Nat.mul_le_mul_left B h4;omega
end Go.Via
namespace Go.Via
def lX(l:List UInt8):Nat:=val 256 (l.reverse.map UInt8.toNat)
def qgk(s:ByteArray):Nat:=lX s.data.toList
def yK(n:Nat):List UInt8:=(ag 256 n).reverse.map UInt8.ofNat
def bF(n:Nat):ByteArray:=⟨(yK n).toArray⟩
def nb(n:Nat):Nat:=(ag 256 n).length
theorem DW(n:Nat):(bF n).data.toList=yK n:=rfl
theorem Qk(n:Nat):(yK n).length=nb n:=by simp[yK,nb]
theorem kV(n:Nat):(bF n).size=nb n:=by
 show(yK n).toArray.size=_;simp[Qk]
theorem Jk(l:List UInt8):∀d∈l.reverse.map UInt8.toNat,d<256:=by
 intro d hd;obtain⟨u,_,rfl⟩:=List.mem_map.1 hd;exact u.toNat_lt
theorem Hm(l:List UInt8):(l.map UInt8.toNat).map UInt8.ofNat=l:=by
 rw[List.map_map]
 conv=>rhs;rw[<-List.map_id l]
 exact List.map_congr_left (fun u _=>by simp)
theorem nS{l:List Nat}(h:∀d∈l,d<256):(l.map UInt8.ofNat).map UInt8.toNat=l:=by
 rw[List.map_map]
 conv=>rhs;rw[<-List.map_id l]
 exact List.map_congr_left (fun u hu=>by have:=h u hu;simp;omega)
def XG(n:Nat):lX (yK n)=n:=by
 unfold lX yK;rw[<-List.map_reverse,List.reverse_reverse,nS (Au (by omega)),rq (by omega)]
theorem Ql(n:Nat):qgk (bF n)=n:=XG n
theorem Ol{a b:Nat}:bF a=bF b↔a=b:=by
 constructor
 ·intro h;have:=congrArg qgk h;rwa [Ql,Ql] at this
 ·rintro rfl;rfl
def qcV(s:ByteArray):Prop:=s.data.toList.head? ≠some 0
theorem FI{l:List UInt8}(h:l.head? ≠some 0):yK (lX l)=l:=by
 unfold yK lX;rw[Jj (by omega) (Jk l)]
 ·rw[<-List.map_reverse,List.reverse_reverse,Hm]
 ·unfold uM;rw[List.getLast?_map,List.getLast?_reverse];cases hh:l.head? with
  |none=>simp
  |some u=>
   simp only[Option.map_some,ne_eq,Option.some.injEq];intro hu
   apply h
   rw[hh]
   congr 1
   exact UInt8.toNat_inj.1 (by simpa using hu)
def ZK{s:ByteArray}(h:qcV s):bF (qgk s)=s:=by
 cases s with
 |mk d=>
  show ByteArray.mk (yK (lX d.toList)).toArray=_;rw[FI h]
def ZL(n:Nat):qcV (bF n):=by
 unfold qcV;rw[DW];unfold yK;rw[List.head?_map,List.head?_reverse];have h:=TU (B:=256) (by omega) n;unfold uM at h;cases hl:(ag 256 n).getLast? with
 |none=>simp
 |some d=>
  have hd:d<256:=Au (by omega) d (List.mem_of_getLast? hl);simp only[Option.map_some,ne_eq,Option.some.injEq];intro hu;have:=congrArg UInt8.toNat hu;simp at this;rw[Nat.mod_eq_of_lt hd] at this;rw[hl,this] at h;exact h rfl
theorem jV:nb 0=0:=by simp[nb,ja]
def Cm{n:Nat}:nb n=0↔n=0:=by
 unfold nb;rw[List.length_eq_zero_iff,uO (by omega)]
def nC{n k:Nat}(h:n<256^k):nb n<=k:=je (by omega) h
theorem jQ(n:Nat):n<256^nb n:=dP (by omega) n
def oC{n k:Nat}(h:nb n<=k):n<256^k:=Nat.lt_of_lt_of_le (jQ n) (Nat.pow_le_pow_right (by omega) h)
def fZ{a b:Nat}(h:a<=b):nb a<=nb b:=qh (by omega) h
def zf(a b:Nat):nb (a+b)<=max (nb a) (nb b)+1:=by
 apply nC
 have h1:=oC (n:=a) (k:=max (nb a) (nb b)) (by omega);have h2:=oC (n:=b) (k:=max (nb a) (nb b)) (by omega);rw[Nat.pow_succ];omega
def nT(a b:Nat):nb (a*b)<=nb a+nb b:=by
 apply nC
 rw[Nat.pow_add];exact Nat.mul_lt_mul'' (jQ a) (jQ b)
def vJ(a b:Nat):nb (a/b)<=nb a:=fZ (Nat.div_le_self a b)
def Qm(a b:Nat)(h:a≠0):nb (Nat.gcd a b)<=nb a:=fZ (Nat.gcd_le_left b (by omega))
theorem iK:bF 0=⟨#[]⟩:=by show ByteArray.mk (yK 0).toArray=_;simp[yK,ja]
theorem qcW:bF 1=⟨#[1]⟩:=by
 show ByteArray.mk (yK 1).toArray=_;rw[yK,y9 (by omega) (by omega) (by omega)];rfl
def Lc(n i:Nat)(hi:i<nb n):(yK n)[i]? =some (UInt8.ofNat (n/256^(nb n-1-i)%256)):=by
 unfold yK;rw[List.getElem?_map,List.getElem?_reverse (by simpa[nb] using hi)];have:=lm (B:=256) (by omega) n (nb n-1-i) (by unfold nb at*;omega);unfold nb at*;rw[this];rfl
end Go.Via
namespace Go.Via
open Go
def I(z:Int):Value:= .agg #[.bool (decide (z<0)),.string (bF z.natAbs)]
def dm(q:Rat):ByteArray:=if q.den=1 then⟨#[]⟩ else bF q.den
def Q(q:Rat):Value:= .agg #[.bool (decide (q.num<0)),.string (bF q.num.natAbs),.bool false,.string (dm q)]
def jf(z:Int):Nat:=nb z.natAbs
def bP(q:Rat):Nat:=max (nb q.num.natAbs) (nb q.den)
def Io{a b:Int}{m n:Nat}(ha:jf a<=m)(hb:jf b<=n):jf (a+b)<=m+n+1:=by
 unfold jf at*;have h1:=fZ (Int.natAbs_add_le a b);have h2:=zf a.natAbs b.natAbs;omega
def lG{a b:Int}{m n:Nat}(ha:jf a<=m)(hb:jf b<=n):jf (a*b)<=m+n:=by
 unfold jf at*;rw[Int.natAbs_mul];have:=nT a.natAbs b.natAbs;omega
def Vz{a:Int}{m:Nat}(ha:jf a<=m):jf (-a)<=m:=by unfold jf at*;rwa [Int.natAbs_neg]
def qcX{a b:Int}{m n:Nat}(ha:jf a<=m)(hb:jf b<=n):jf (a-b)<=m+n+1:=by
 rw[Int.sub_eq_add_neg];exact Io ha (Vz hb)
def zh{a k:Nat}(h:nb a<=k):jf (a:Int)<=k:=by unfold jf;simpa using h
def lH{q:Rat}{m:Nat}(h:bP q<=m):jf q.num<=m:=by unfold jf bP at*;omega
def Jl{q:Rat}{m:Nat}(h:bP q<=m):nb q.num.natAbs<=m:=by unfold bP at*;omega
def kM{q:Rat}{m:Nat}(h:bP q<=m):jf (q.den:Int)<=m:=by unfold jf bP at*;simp;omega
def Jm{q:Rat}{m:Nat}(h:bP q<=m):nb q.den<=m:=by unfold bP at*;omega
def Jn(b:Int):b.sign.natAbs<=1:=by
 rcases Int.lt_trichotomy b 0 with h|h|h
 ·rw[Int.sign_eq_neg_one_of_neg h];simp
 ·subst h;simp
 ·rw[Int.sign_eq_one_of_pos h];simp
def lY{n d:Int}{a b:Nat}(hn:jf n<=a)(hd:jf d<=b)(hb:1<=b):bP (Rat.divInt n d)<=max a b:=by
 unfold bP jf at*;rw[Rat.num_divInt,Rat.den_divInt];have h1:nb (d.sign*n/↑(d.gcd n)).natAbs<=nb n.natAbs:=by
  apply fZ
  refine Nat.le_trans (Int.natAbs_ediv_le_natAbs _ _) ?_;rw[Int.natAbs_mul];have:=Jn d
  calc d.sign.natAbs*n.natAbs<=1*n.natAbs:=Nat.mul_le_mul_right _ this
   _=n.natAbs:=Nat.one_mul _
 have h2:nb (if d=0 then 1 else d.natAbs/d.gcd n)<=max 1 (nb d.natAbs):=by
  split
  ·exact Nat.le_trans (nC (k:=1) (by omega)) (by omega)
  ·exact Nat.le_trans (vJ _ _) (by omega)
 omega
def Ip(q:Rat):1<=bP q:=by
 unfold bP;have h:nb q.den≠0:=fun h=>q.den_nz (Cm.1 h)
 omega
def VA{a b:Rat}{m n:Nat}(ha:bP a<=m)(hb:bP b<=n):bP (a+b)<=m+n+1:=by
 have e:a+b=Rat.divInt (a.num*b.den+b.num*a.den) (a.den*b.den):=by
  conv=>lhs;rw[<-Rat.num_divInt_den a,<-Rat.num_divInt_den b]
  rw[Rat.divInt_add_divInt _ _ (by have:=a.den_nz;omega) (by have:=b.den_nz;omega)]
 have hm:=Ip a;rw[e];have h1:jf (a.num*b.den+b.num*a.den)<=m+n+1:=by
  unfold jf;have h2:=fZ (Int.natAbs_add_le (a.num*b.den) (b.num*a.den));have h3:=zf (a.num*b.den).natAbs (b.num*a.den).natAbs;have h4:=lG (lH ha) (kM hb);have h5:=lG (lH hb) (kM ha);unfold jf at h4 h5;omega
 have h2:jf ((a.den:Int)*b.den)<=m+n:=lG (kM ha) (kM hb);have:=lY h1 h2 (by omega);omega
def uP{a b:Rat}{m n:Nat}(ha:bP a<=m)(hb:bP b<=n):bP (a*b)<=m+n:=by
 have e:a*b=Rat.divInt (a.num*b.num) (a.den*b.den):=by
  conv=>lhs;rw[<-Rat.num_divInt_den a,<-Rat.num_divInt_den b]
  rw[Rat.divInt_mul_divInt]
 have hm:=Ip a;rw[e];have:=lY (lG (lH ha) (lH hb)) (lG (kM ha) (kM hb)) (by omega);omega
def VB{a:Rat}{m:Nat}(ha:bP a<=m):bP (-a)<=m:=by
 unfold bP at*;simpa using ha
def Aw{a b:Rat}{m n:Nat}(ha:bP a<=m)(hb:bP b<=n):bP (a-b)<=m+n+1:=by
 rw[Rat.sub_eq_add_neg];exact VA ha (VB hb)
def qcY{a:Rat}{m:Nat}(ha:bP a<=m):bP (a⁻¹)<=m:=by
 have hp:=Ip a;rw[Rat.inv_def];have:=lY (kM ha) (lH ha) (by omega);omega
def DX{a b:Rat}{m n:Nat}(ha:bP a<=m)(hb:bP b<=n):bP (a/b)<=m+n:=by
 rw[Rat.div_def];exact uP ha (qcY hb)
def qcZ{z:Int}{m:Nat}(h:jf z<=m)(hm:1<=m):bP (z:Rat)<=m:=by
 unfold bP jf at*;simp only[Rat.num_intCast,Rat.den_intCast];have:nb 1<=1:=nC (by omega);omega
def jC{z:Int}(h1: -255<=z)(h2:z<=255):jf z<=1:=by
 unfold jf;apply nC;omega
theorem xK(a b:ByteArray):(a==b)=decide (a=b):=by
 rw[beq_toListBytes,ByteArray.toList_eq,ByteArray.toList_eq,Bool.eq_iff_iff];cases a with|mk x=>cases b with|mk y=>
 cases x;cases y;simp
theorem Iq(a b:Nat):(bF a==bF b)=decide (a=b):=by
 rw[xK,Bool.eq_iff_iff];simp[Ol]
theorem FK:((⟨#[]⟩:ByteArray)==⟨#[]⟩)=true:=by rw[xK];simp
theorem mY(a:Nat):(bF a==⟨#[]⟩)=decide (a=0):=by
 rw[<-iK];exact Iq a 0
theorem sU(a:Nat):(bF a !=⟨#[]⟩)=decide (a≠0):=by
 rw[bne,mY];simp
theorem Qn(q:Rat):(dm q==⟨#[]⟩)=decide (q.den=1):=by
 unfold dm
 split
 ·rename_i h;rw[FK];simp[h]
 ·rename_i h;rw[mY];simp[h,q.den_nz]
theorem ZM(p q:Rat):(dm p==dm q)=decide (p.den=q.den):=by
 unfold dm;have hp:=p.den_nz;have hq:=q.den_nz
 split
 ·rename_i h
  split
  ·rename_i h';rw[FK];simp[h,h']
  ·rename_i h'
   have:((⟨#[]⟩:ByteArray)==bF q.den)=false:=by
    rw[<-iK,Iq];simp;omega
   rw[this];simp[h];omega
 ·rename_i h
  split
  ·rename_i h';rw[mY];simp[h',hp,h]
  ·rw[Iq]
theorem qiC(x y:Int):((decide (x<0)==decide (y<0))&&(bF x.natAbs==bF y.natAbs))=decide (x=y):=by
 rw[Iq,Bool.eq_iff_iff];simp only[Bool.and_eq_true,beq_iff_eq,decide_eq_true_eq,decide_eq_decide];omega
theorem qiD(p q:Rat):((decide (p.num<0)==decide (q.num<0))&&(bF p.num.natAbs==bF q.num.natAbs)&&(dm p==dm q))=decide (p=q):=by
 rw[qiC,ZM,Bool.eq_iff_iff];simp only[Bool.and_eq_true,decide_eq_true_eq];exact⟨fun⟨h1,h2⟩=>Rat.ext h1 h2,fun h=>h▸⟨rfl,rfl⟩⟩
theorem Qp{n d:Int}(hd:0<d):Q (Rat.divInt n d)= .agg #[.bool (decide (n/(Int.gcd n d:Int)<0)),.string (bF (n/(Int.gcd n d:Int)).natAbs),.bool false,.string (if d/(Int.gcd n d:Int)=1 then⟨#[]⟩ else bF (d/(Int.gcd n d:Int)).natAbs)]:=by
 have h1:(Rat.divInt n d).num=n/(Int.gcd n d:Int):=by
  rw[Rat.num_divInt,Int.sign_eq_one_of_pos hd,Int.one_mul,Int.gcd_comm]
 have hg:0<(Int.gcd n d:Int):=by
  have:Int.gcd n d≠0:=(by rw[Ne,Int.gcd_eq_zero_iff];omega);omega
 have h2:((Rat.divInt n d).den:Int)=d/(Int.gcd n d:Int):=by
  rw[Rat.den_divInt,if_neg (by omega),Int.gcd_comm d n];rw[Int.natCast_ediv,Int.natAbs_of_nonneg (by omega)]
 unfold Q dm;rw[h1,<-h2]
 congr 5
 by_cases h:(Rat.divInt n d).den=1
 ·rw[if_pos h,if_pos (by omega)]
 ·rw[if_neg h,if_neg (by omega)];simp
def qgl(n:Nat):Value.agg #[.bool (bF n !=⟨#[]⟩),.string (bF n)]=I (-(n:Int)):=by
 unfold I;rw[sU]
 congr 4
 ·rw[Bool.eq_iff_iff];simp;omega
 ·simp
def ZN(n:Nat):Value.agg #[.bool false,.string (bF n)]=I (n:Int):=by
 unfold I
 congr 4
def TW(z:Int):(if(!decide (z<0))=true then-(z.natAbs:Int) else(z.natAbs:Int))= -z:=by
 by_cases h:z<0<;>simp[h]<;>omega
def Qq(a b:Int)(h:(decide (a<0)==decide (b<0))=true):(if decide (a<0)=true then-((a.natAbs+b.natAbs:Nat):Int) else((a.natAbs+b.natAbs:Nat):Int))=a+b:=by
 by_cases h1:a<0<;>by_cases h2:b<0<;>simp_all<;>omega
def LY(a b:Int)(h:(decide (a<0)==decide (b<0))=false)(hle:b.natAbs<=a.natAbs):(if decide (a<0)=true then-((a.natAbs-b.natAbs:Nat):Int) else((a.natAbs-b.natAbs:Nat):Int))=a+b:=by
 by_cases h1:a<0<;>by_cases h2:b<0<;>simp_all<;>omega
def LZ(a b:Int)(h:(decide (a<0)==decide (b<0))=false)(hle:a.natAbs<=b.natAbs):(if decide (b<0)=true then-((b.natAbs-a.natAbs:Nat):Int) else((b.natAbs-a.natAbs:Nat):Int))=a+b:=by
 by_cases h1:a<0<;>by_cases h2:b<0<;>simp_all<;>omega
def VC(m n:Nat)(h:decide ((0:Int)<=(if m<n then-1 else if n<m then 1 else 0))=true):n<=m:=by
 by_cases h1:m<n
 ·simp[h1] at h
 ·omega
def VD(m n:Nat)(h:decide ((0:Int)<=(if m<n then-1 else if n<m then 1 else 0))=false):m<=n:=by
 by_cases h1:m<n
 ·omega
 ·by_cases h2:n<m<;>simp[h1,h2] at h
theorem VE(a b:Int):(if(decide (a<0) !=decide (b<0))=true then-((a.natAbs*b.natAbs:Nat):Int) else((a.natAbs*b.natAbs:Nat):Int))=a*b:=by
 have h:((a.natAbs*b.natAbs:Nat):Int)=(a.natAbs:Int)*(b.natAbs:Int):=Int.natCast_mul _ _;rw[h]
 by_cases h1:a<0<;>by_cases h2:b<0
 ·rw[show(a.natAbs:Int)= -a by omega,show(b.natAbs:Int)= -b by omega];simp[h1,h2,Int.neg_mul_neg]
 ·rw[show(a.natAbs:Int)= -a by omega,show(b.natAbs:Int)=b by omega];simp[h1,h2,Int.neg_mul]
 ·rw[show(a.natAbs:Int)=a by omega,show(b.natAbs:Int)= -b by omega];simp[h1,h2,Int.mul_neg]
 ·rw[show(a.natAbs:Int)=a by omega,show(b.natAbs:Int)=b by omega];simp[h1,h2]
def L6(z:Int)(h:(bF z.natAbs==⟨#[]⟩)=true):(0:Int)=z.sign:=by
 rw[mY] at h;simp at h;subst h;rfl
def sign_neg(z:Int)(h:decide (z<0)=true):(-1:Int)=z.sign:=by
 simp at h;rw[Int.sign_eq_neg_one_of_neg h]
def Qr(z:Int)(h0:(bF z.natAbs==⟨#[]⟩)=false)(h:decide (z<0)=false):(1:Int)=z.sign:=by
 rw[mY] at h0;simp at h h0;rw[Int.sign_eq_one_of_pos (by omega)]
def xM(a b:Int):Int:=if a<b then-1 else if b<a then 1 else 0
def lZ(a b:Nat):Int:=if a<b then-1 else if b<a then 1 else 0
def l9(a b:Rat):Int:=if a<b then-1 else if b<a then 1 else 0
def qc0{a b:Int}{m n:Nat}(ha:jf a<=m)(hb:jf b<=n):jf (Int.gcd a b:Int)<=m+n:=by
 unfold jf at*;simp only[Int.natAbs_natCast];rw[Int.gcd_eq_natAbs_gcd_natAbs]
 by_cases h:a.natAbs=0
 ·rw[h,Nat.gcd_zero_left];omega
 ·have:=Qm a.natAbs b.natAbs h;omega
def GH{a b q r:Int}(hb:b≠0)(h:r+b*q=a)(h0:0<=r)(h1:r<b.natAbs):q=a/b∧r=a%b:=by
 rcases Int.lt_or_lt_of_ne hb with hb'|hb'
 ·have:=(Int.ediv_emod_unique' hb').2 ⟨h,h0,by omega⟩;exact⟨this.1.symm,this.2.symm⟩
 ·have:=(Int.ediv_emod_unique hb').2 ⟨h,h0,by omega⟩;exact⟨this.1.symm,this.2.symm⟩
def ZO(a b:Int):(a.natAbs:Int)=(b.natAbs:Int)*((a.natAbs/b.natAbs:Nat):Int)+((a.natAbs%b.natAbs:Nat):Int):=by
 rw[<-Int.natCast_mul,<-Int.natCast_add,Nat.div_add_mod]
def Qs{a b:Int}(hb:b≠0)(h:¬a<0∨a.natAbs%b.natAbs=0):
 (if(decide (a<0) !=decide (b<0))=true then-((a.natAbs/b.natAbs:Nat):Int) else((a.natAbs/b.natAbs:Nat):Int))=a/b∧((a.natAbs%b.natAbs:Nat):Int)=a%b:=by
 have hd:=ZO a b;have hlt:a.natAbs%b.natAbs<b.natAbs:=Nat.mod_lt _ (by omega)
 generalize a.natAbs/b.natAbs=q at*
 generalize a.natAbs%b.natAbs=r at*
 refine GH hb ?_ (by omega) (by omega)
 by_cases h1:a<0<;>by_cases h2:b<0
 ·have ea:(a.natAbs:Int)= -a:=by omega
  have eb:(b.natAbs:Int)= -b:=(by omega);rw[ea,eb] at hd;simp[h1,h2];have:r=0:=(by omega);subst this;simp at hd ⊢;have e: -b*(q:Int)= -(b*q):=Int.neg_mul _ _;rw[e] at hd;omega
 ·have ea:(a.natAbs:Int)= -a:=by omega
  have eb:(b.natAbs:Int)=b:=(by omega);rw[ea,eb] at hd;simp[h1,h2];have:r=0:=(by omega);subst this;simp at hd ⊢;rw[Int.mul_neg];omega
 ·have ea:(a.natAbs:Int)=a:=by omega
  have eb:(b.natAbs:Int)= -b:=(by omega);rw[ea,eb] at hd;simp[h1,h2];rw[Int.neg_mul] at hd;rw[Int.mul_neg];omega
 ·have ea:(a.natAbs:Int)=a:=by omega
  have eb:(b.natAbs:Int)=b:=(by omega);rw[ea,eb] at hd;simp[h1,h2];omega
def ZP{a b:Int}(hb:b≠0)(h:a<0)(hr:a.natAbs%b.natAbs≠0):
 (if(decide (a<0) !=decide (b<0))=true then-((a.natAbs/b.natAbs+1:Nat):Int) else((a.natAbs/b.natAbs+1:Nat):Int))=a/b∧((b.natAbs-a.natAbs%b.natAbs:Nat):Int)=a%b:=by
 have hd:=ZO a b;have hlt:a.natAbs%b.natAbs<b.natAbs:=Nat.mod_lt _ (by omega)
 generalize a.natAbs/b.natAbs=q at*
 generalize a.natAbs%b.natAbs=r at*
 refine GH hb ?_ (by omega) (by omega);have ea:(a.natAbs:Int)= -a:=by omega
 by_cases h2:b<0
 ·have eb:(b.natAbs:Int)= -b:=by omega
  rw[ea,eb] at hd;simp[h,h2];rw[Int.neg_mul] at hd;rw[Int.mul_add];omega
 ·have eb:(b.natAbs:Int)=b:=by omega
  rw[ea,eb] at hd;simp[h,h2];rw[Int.mul_neg,Int.mul_add];omega
def Om{n d:Int}(hd:0<d)(h1:d/(Int.gcd n d:Int)=1):Value.agg #[.bool (decide (n/(Int.gcd n d:Int)<0)),.string (bF (n/(Int.gcd n d:Int)).natAbs),aU,aV]=Q (Rat.divInt n d):=by
 rw[Qp hd,if_pos h1]
def Oo{n d:Int}(hd:0<d)(h1:d/(Int.gcd n d:Int)≠1):Value.agg #[.bool (decide (n/(Int.gcd n d:Int)<0)),.string (bF (n/(Int.gcd n d:Int)).natAbs),.bool (decide (d/(Int.gcd n d:Int)<0)),.string (bF (d/(Int.gcd n d:Int)).natAbs)]=Q (Rat.divInt n d):=by
 rw[Qp hd,if_neg h1]
 congr 5
 have:0<=d/(Int.gcd n d:Int):=Int.ediv_nonneg (by omega) (by omega);simp;omega
def Oq{n d:Int}(hd:d≠0):(Int.gcd n d:Int)≠0:=by
 have:Int.gcd n d≠0:=(by rw[Ne,Int.gcd_eq_zero_iff];omega);omega
def VF{d:Int}(h:decide (d.sign<0)=true):d<0:=by
 simpa using h
def VG{d:Int}(h:decide (d.sign<0)=false)(h0:d≠0):0<d:=by
 simp at h;omega
theorem dH(a b:Int):jf (a+b)<=jf a+jf b+1:=Io (Nat.le_refl _) (Nat.le_refl _)
theorem dI(a b:Int):jf (a-b)<=jf a+jf b+1:=qcX (Nat.le_refl _) (Nat.le_refl _)
theorem dJ(a b:Int):jf (a*b)<=jf a+jf b:=lG (Nat.le_refl _) (Nat.le_refl _)
theorem dK(a:Int):jf (-a)<=jf a:=Vz (Nat.le_refl _)
theorem dL(a b:Int):jf (Int.gcd a b:Int)<=jf a+jf b:=qc0 (Nat.le_refl _) (Nat.le_refl _)
theorem dB(q:Rat):jf q.num<=bP q:=lH (Nat.le_refl _)
theorem dC(q:Rat):jf (q.den:Int)<=bP q:=kM (Nat.le_refl _)
theorem bC(a b:Rat):bP (a+b)<=bP a+bP b+1:=VA (Nat.le_refl _) (Nat.le_refl _)
theorem bz(a b:Rat):bP (a-b)<=bP a+bP b+1:=Aw (Nat.le_refl _) (Nat.le_refl _)
theorem aK(a b:Rat):bP (a*b)<=bP a+bP b:=uP (Nat.le_refl _) (Nat.le_refl _)
theorem dE(a b:Rat):bP (a/b)<=bP a+bP b:=DX (Nat.le_refl _) (Nat.le_refl _)
theorem dn(a:Rat):bP (-a)<=bP a:=VB (Nat.le_refl _)
theorem jg(a:Int):nb a.natAbs<=jf a:=Nat.le_refl _
theorem zi(q:Rat):(q.den:Int)≠0:=by have:=q.den_nz;omega
def den_pos(q:Rat):(0:Int)<q.den:=by have:=q.den_nz;omega
def Jo(p q:Rat):(p.den:Int)*q.den≠0:=Int.mul_ne_zero (zi p) (zi q)
def qiE{q:Rat}(h:((false==false)&&(dm q==⟨#[]⟩))=true):I 1=I q.den:=by
 rw[Qn] at h;simp at h;rw[h];rfl
def qiF{q:Rat}(h:((false==false)&&(dm q==⟨#[]⟩))=false):Value.agg #[.bool false,.string (dm q)]=I q.den:=by
 rw[Qn] at h;simp at h;unfold dm;rw[if_neg h];exact ZN q.den
def kN(p q:Rat):Int:=if p.den=q.den then p.num else p.num*q.den
def kQ(p q:Rat):Int:=if p.den=q.den then q.num else q.num*p.den
def lu(p q:Rat):Int:=if p.den=q.den then p.den else p.den*q.den
def qc7{p q:Rat}(h:((false==false)&&(dm p==dm q))=true):Value.tuple #[I p.num,I q.num,I p.den]= .tuple #[I (kN p q),I (kQ p q),I (lu p q)]:=by
 rw[ZM] at h;simp at h;unfold kN kQ lu;rw[if_pos h,if_pos h,if_pos h]
def qc8{p q:Rat}(h:((false==false)&&(dm p==dm q))=false):Value.tuple #[I (p.num*q.den),I (q.num*p.den),I (p.den*q.den)]= .tuple #[I (kN p q),I (kQ p q),I (lu p q)]:=by
 rw[ZM] at h;simp at h;unfold kN kQ lu;rw[if_neg h,if_neg h,if_neg h]
def Mc(p q:Rat):lu p q≠0:=by
 unfold lu;split
 ·exact zi p
 ·exact Jo p q
def TY(p q:Rat):0<lu p q:=by
 unfold lu;split
 ·exact den_pos p
 ·exact Int.mul_pos (den_pos p) (den_pos q)
def szX{p q:Rat}{m n:Nat}(hp:bP p<=m)(hq:bP q<=n):jf (kN p q)<=m+n:=by
 unfold kN;split
 ·have:=lH hp;omega
 ·exact lG (lH hp) (kM hq)
def szY{p q:Rat}{m n:Nat}(hp:bP p<=m)(hq:bP q<=n):jf (kQ p q)<=m+n:=by
 unfold kQ;split
 ·have:=lH hq;omega
 ·have:=lG (lH hq) (kM hp);omega
def szD{p q:Rat}{m n:Nat}(hp:bP p<=m)(hq:bP q<=n):jf (lu p q)<=m+n:=by
 unfold lu;split
 ·have:=kM hp;omega
 ·exact lG (kM hp) (kM hq)
def qkp{p q:Rat}{m n:Nat}(hp:bP p<=m)(hq:bP q<=n):jf (kN p q+kQ p q)<=m+n+1:=by
 have h1:=szX hp hq;have h2:=szY hp hq;unfold jf at*;have h3:=fZ (Int.natAbs_add_le (kN p q) (kQ p q));have h4:=zf (kN p q).natAbs (kQ p q).natAbs;omega
def VH(p q:Rat):p=Rat.divInt (kN p q) (lu p q)∧q=Rat.divInt (kQ p q) (lu p q):=by
 unfold kN kQ lu
 split
 ·rename_i h
  refine⟨(Rat.num_divInt_den p).symm,?_⟩;rw[h];exact(Rat.num_divInt_den q).symm
 ·refine⟨?_,?_⟩
  ·rw[Rat.divInt_mul_right (zi q)];exact(Rat.num_divInt_den p).symm
  ·rw[Int.mul_comm (p.den:Int),Rat.divInt_mul_right (zi p)];exact(Rat.num_divInt_den q).symm
def XH(p q:Rat):Rat.divInt (kN p q+kQ p q) (lu p q)=p+q:=by
 have h:=VH p q;have h0:=Mc p q
 generalize kN p q=x at*
 generalize kQ p q=y at*
 generalize lu p q=d at*
 rw[h.1,h.2,Rat.divInt_add_divInt _ _ h0 h0,<-Int.add_mul,Rat.divInt_mul_right h0]
theorem Jp(p q:Rat):Rat.divInt (p.num*q.num) (p.den*q.den)=p*q:=by
 conv=>rhs;rw[<-Rat.num_divInt_den p,<-Rat.num_divInt_den q]
 rw[Rat.divInt_mul_divInt]
theorem TZ(p q:Rat):Rat.divInt (p.num*q.den) (p.den*q.num)=p/q:=by
 rw[Rat.div_def,Rat.inv_def]
 conv=>rhs;rw[<-Rat.num_divInt_den p]
 rw[Rat.divInt_mul_divInt]
theorem qc9(p q:Rat):(if q=0 then(6:Int) else 0)=(if(p.den:Int)*q.num=0 then 6 else 0):=by
 by_cases h:q=0
 ·subst h;simp
 ·have h1:q.num≠0:=fun e=>h (Rat.num_eq_zero.1 e)
  rw[if_neg h,if_neg (Int.mul_ne_zero (zi p) h1)]
theorem XI(p:Rat):l9 p p=0:=by unfold l9;simp[Rat.lt_irrefl]
def Md{x y d:Int}(hd:0<d):Rat.divInt x d<Rat.divInt y d↔x<y:=by
 have e:∀z:Int,Rat.divInt z d=(z:Rat)/(d:Rat):=fun z=>Rat.divInt_eq_div z d
 rw[e,e];have hd':(0:Rat)<(d:Rat):=Rat.intCast_pos.2 hd;rw[Rat.div_lt_iff hd',Rat.div_mul_cancel (by intro h;rw[h] at hd';exact absurd hd' (Rat.lt_irrefl))];exact Rat.intCast_lt_intCast
def XJ(p q:Rat):xM (kN p q) (kQ p q)=l9 p q:=by
 have h:=VH p q;have h0:=TY p q;unfold xM l9;have h1:(p<q)↔kN p q<kQ p q:=by
  generalize kN p q=x at*;generalize kQ p q=y at*;generalize lu p q=d at*
  rw[h.1,h.2];exact Md h0
 have h2:(q<p)↔kQ p q<kN p q:=by
  generalize kN p q=x at*;generalize kQ p q=y at*;generalize lu p q=d at*
  rw[h.1,h.2];exact Md h0
 simp only[h1,h2]
theorem VI{p q:Rat}:l9 p q<=0↔p<=q:=by
 unfold l9
 split
 ·rename_i h;simp;exact Rat.le_of_lt h
 ·split
  ·rename_i h1 h2;simp;exact Rat.not_le.2 h2
  ·rename_i h1 h2;simp;exact Rat.not_lt.1 h2
theorem xO:Q 0= .agg #[aU,aV,aU,aV]:=by
 show Value.agg #[.bool (decide ((0:Int)<0)),.string (bF 0),.bool false,.string (dm 0)]=_;rw[iK,show dm 0=⟨#[]⟩ from rfl];rfl
end Go.Via
namespace Go.Via
variable[Mo]
open Go
def Ua(n i:Nat)(h:i<nb n):(bF n).data.toList[((i:Int)).toNat]? =some (UInt8.ofNat (n/256^(nb n-1-i)%256)):=by
 rw[Int.toNat_natCast,DW];exact Lc n i h
def Ot(n:Nat):(((UInt8.ofNat (n%256)).toNat:Nat):Int)=((n%256:Nat):Int):=by
 simp
def XK(n:Nat):Value.int .u64 0= .int .u64 ((n/256^(nb n-0):Nat):Int):=by
 rw[Nat.sub_zero,Nat.div_eq_of_lt (jQ n)];rfl
def VJ(n i:Nat)(hi:i<=nb n):n/256^(nb n-i)<256^i:=by
 rw[Nat.div_lt_iff_lt_mul (Nat.pow_pos (by omega)),<-Nat.pow_add,show i+(nb n-i)=nb n by omega];exact jQ n
theorem gz{i k:Nat}(h:i<=k):256^i<=256^k:=Nat.pow_le_pow_right (by omega) h
def ZQ(n i:Nat)(hi:i<=nb n)(hlt:i<nb n)(h8:nb n<=8):n/256^(nb n-i)*2^8<18446744073709551616:=by
 have h1:=VJ n i hi;have h2:256^i<=256^7:=gz (by omega);omega
def XL(n i:Nat)(hlt:i<nb n):n/256^(nb n-(i+1))=n/256^(nb n-i)*256+n/256^(nb n-1-i)%256:=by
 have e:nb n-i=(nb n-(i+1))+1:=(by omega);have e2:nb n-1-i=nb n-(i+1):=(by omega);rw[e,e2,Nat.pow_succ,<-Nat.div_div_eq_div_mul];omega
def qda(n i:Nat)(hi:i<=nb n)(hlt:i<nb n)(h8:nb n<=8):
 IntKind.u64.wrap ((BitVec.ofInt IntKind.u64.bits ((n/256^(nb n-i)*2^8:Nat):Int)|||BitVec.ofInt IntKind.u64.bits ((n/256^(nb n-1-i)%256:Nat):Int)).toNat)=((n/256^(nb n-(i+1)):Nat):Int):=by
 have h1:=XL n i hlt;have h2:=VJ n (i+1) hlt;have h3:256^(i+1)<=256^8:=gz (by omega);exact I5 (m:=n/256^(nb n-i)) 8 (by omega) (by omega) (by omega) (by rw[Nat.mul_comm]) rfl
def row(n:Nat)(f:Nat->Nat):List Nat:=(List.range n).map f
theorem ah(n:Nat)(f:Nat->Nat):(row n f).length=n:=by simp[row]
theorem bG{n:Nat}{f:Nat->Nat}{i:Nat}(h:i<n):(row n f)[i]? =some (f i):=by simp[row,h]
theorem bu{n:Nat}{f g:Nat->Nat}(h:∀j,j<n->f j=g j):row n f=row n g:=by
 unfold row;exact List.map_congr_left fun j hj=>h j (List.mem_range.1 hj)
theorem bJ{n:Nat}{f g:Nat->Nat}{i v:Nat}(h:∀j,j<n->g j=if j=i then v else f j):(row n f).set i v=row n g:=by
 apply List.ext_getElem?
 intro j
 by_cases hj:j<n
 ·rw[bG hj,h j hj]
  by_cases e:i=j
  ·subst e;rw[List.getElem?_set_self (by rw[ah];exact hj)];simp
  ·rw[List.getElem?_set_ne e,bG hj,if_neg (Ne.symm e)]
 ·rw[List.getElem?_eq_none (by simp[ah];omega),List.getElem?_eq_none (by rw[ah];omega)]
theorem zk{B:Nat}(hB:2<=B)(n:Nat):ag B n=row (ag B n).length (fun j=>n/B^j%B):=by
 apply List.ext_getElem?
 intro j
 by_cases hj:j<(ag B n).length
 ·rw[bG hj,lm hB n j hj]
 ·rw[List.getElem?_eq_none (by omega),List.getElem?_eq_none (by rw[ah];omega)]
theorem oO(B:Nat)(hB:1<=B)(n:Nat):∀k,val B (row k (fun j=>n/B^j%B))=n%B^k
 |0=>by simp[row,val,Nat.mod_one]
 |k+1=>by
  have e:row (k+1) (fun j=>n/B^j%B)=row k (fun j=>n/B^j%B)++[n/B^k%B]:=(by simp[row,List.range_succ]);rw[e,Qg,ah,oO B hB n k,Nat.pow_succ,Nat.mod_mul]
def jY{B n:Nat}{f:Nat->Nat}(h:∀j,f j<B):∀d∈row n f,d<B:=by
 intro d hd;obtain⟨j,_,rfl⟩:=List.mem_map.1 hd;exact h j
theorem kX(n:Nat):row n (fun _=>0)=List.replicate n 0:=by
 apply List.ext_getElem?
 intro j
 by_cases hj:j<n
 ·rw[bG hj];simp[hj]
 ·rw[List.getElem?_eq_none (by rw[ah];omega),List.getElem?_eq_none (by simp;omega)]
def jq{L L':List aF}(h:L=L'):eF L L':=h▸eF.refl _
def Le(u i j:Nat):Nat:=if j<nb u∧nb u-1-j<i then u/256^(nb u-1-j)%256 else 0
def XM(u:Nat):NV .u8 (row 8 (Le u 0))=[.int .u8 0,.int .u8 0,.int .u8 0,.int .u8 0,.int .u8 0,.int .u8 0,.int .u8 0,.int .u8 0]:=by
 rw[bu (g:=fun _=>0) (fun j _=>by simp[Le]),kX];rfl
def XN(u i:Nat)(hi:i<nb u):(NV .u8 (row 8 (Le u i))).set (nb u-1-i) (.int .u8 ((u/2^(8*i)%256:Nat):Int))=NV .u8 (row 8 (Le u (i+1))):=by
 rw[cZ,bJ (g:=Le u (i+1))];intro j _;unfold Le
 by_cases e:j=nb u-1-i
 ·subst e;rw[if_pos rfl,if_pos (by omega),show nb u-1-(nb u-1-i)=i by omega,Nat.pow_mul]
 ·rw[if_neg e]
  by_cases c:j<nb u∧nb u-1-j<i
  ·rw[if_pos c,if_pos (by omega)]
  ·rw[if_neg c,if_neg (by omega)]
def ZR(u:Nat)(h8:nb u<=8):(NV .u8 (row 8 (Le u (nb u)))).take (nb u)=NV .u8 (ag 256 u).reverse:=by
 rw[DN]
 congr 1
 apply List.ext_getElem?
 intro j
 by_cases hj:j<nb u
 ·rw[List.getElem?_take,if_pos hj,bG (by omega)];rw[List.getElem?_reverse (by exact hj)];have e:=lm (B:=256) (by omega) u (nb u-1-j) (by unfold nb at*;omega);unfold nb at e hj ⊢;rw[e];unfold Le;rw[if_pos (by unfold nb;omega)];rfl
 ·rw[List.getElem?_eq_none (by simp;omega),List.getElem?_eq_none (by simp;unfold nb at hj;omega)]
def Jq(u:Nat):ZB (ag 256 u).reverse=bF u:=rfl
def qgm{u:Nat}(h:u<18446744073709551616):nb u<=8:=nC (by omega)
def CB{u:Nat}(h:u≠0):0<nb u:=by have:=Cm (n:=u);omega
end Go.Via
namespace Go.Via
open Go
def VK{m n r:Nat}(i:Nat)(hn:n<2^i)(hr:n+2^i*m=r)(hb:r<4294967296){x y:Int}(hx:x=(n:Int))(hy:y=((2^i*m:Nat):Int)):
 IntKind.u32.wrap ((BitVec.ofInt IntKind.u32.bits x|||BitVec.ofInt IntKind.u32.bits y).toNat)=(r:Int):=by
 rw[BitVec.or_comm];exact qgc i hn (by omega) hb hy hx
def ae:Nat:=4294967296
theorem dh:2<=ae:=by decide
theorem DY(j:Nat):ae^j=256^(4*j):=by rw[show ae=256^4 from rfl,<-Nat.pow_mul]
theorem DZ(n:Nat):(ag ae n).length=(nb n+3)/4:=by
 have e1:(ag ae n).length<=(nb n+3)/4:=je dh (by
 rw[DY];exact Nat.lt_of_lt_of_le (jQ n) (gz (by omega)))
 have e2:(nb n+3)/4<=(ag ae n).length:=by
  by_cases h0:nb n=0
  ·rw[h0];omega
  ·have hn:nb n<=4*(ag ae n).length:=nC (by rw[<-DY];exact dP dh n);omega
 omega
def xP(n i j:Nat):Nat:=n%256^i/256^(4*j)%ae
theorem XO(n j:Nat):xP n 0 j=0:=by simp[xP,Nat.mod_one]
theorem ZT(n:Nat):row ((nb n+3)/4) (xP n (nb n))=ag ae n:=by
 rw[zk dh n,DZ];refine bu fun j _=>?_
 unfold xP;rw[Nat.mod_eq_of_lt (jQ n),DY]
theorem GI(n i:Nat):n%256^(i+1)=n%256^i+256^i*(n/256^i%256):=by rw[Nat.pow_succ,Nat.mod_mul]
def Jr(n i:Nat):xP n i (i/4)<2^(8*(i%4)):=by
 unfold xP;have h1:n%256^i/256^(4*(i/4))<256^(i%4):=by
  rw[Nat.div_lt_iff_lt_mul (Nat.pow_pos (by omega)),<-Nat.pow_add,show i%4+4*(i/4)=i by omega];exact Nat.mod_lt _ (Nat.pow_pos (by omega))
 have e2:2^(8*(i%4))=256^(i%4):=(by rw[Nat.pow_mul]);rw[e2];exact Nat.lt_of_le_of_lt (Nat.mod_le _ _) h1
def Js(n i:Nat):xP n i (i/4)+2^(8*(i%4))*(n/256^i%256)<4294967296:=by
 have h1:=Jr n i;have h2:n/256^i%256<256:=Nat.mod_lt _ (by omega);have h3:2^(8*(i%4))*(n/256^i%256+1)<=2^(8*(i%4))*256:=Nat.mul_le_mul_left _ h2;have h4:2^(8*(i%4))*256<=4294967296:=by
  have:i%4=0∨i%4=1∨i%4=2∨i%4=3:=(by omega);rcases this with e|e|e|e<;>rw[e]<;>decide
 rw[Nat.mul_add] at h3;omega
theorem XP(n i j:Nat):xP n (i+1) j=if j=i/4 then xP n i j+2^(8*(i%4))*(n/256^i%256) else xP n i j:=by
 have hb:n/256^i%256<256:=Nat.mod_lt _ (by omega);have hA:n%256^i<256^i:=Nat.mod_lt _ (Nat.pow_pos (by omega))
 split
 ·rename_i e
  subst e;have hs:=Js n i;have hl:=Jr n i;unfold xP at*;rw[GI]
  generalize n/256^i%256=b at*
  have e1:256^i*b=256^(4*(i/4))*(256^(i%4)*b):=by
   rw[<-Nat.mul_assoc,<-Nat.pow_add,show 4*(i/4)+i%4=i by omega]
  rw[e1,Nat.add_mul_div_left _ _ (Nat.pow_pos (by omega))];have e2:2^(8*(i%4))=256^(i%4):=by rw[Nat.pow_mul]
  rw[e2] at hs hl ⊢;have h1:n%256^i/256^(4*(i/4))<256^(i%4):=by
   rw[Nat.div_lt_iff_lt_mul (Nat.pow_pos (by omega)),<-Nat.pow_add,show i%4+4*(i/4)=i by omega];exact hA
  have h2:256^(i%4)<=ae:=by
   have:256^(i%4)<=256^4:=gz (by omega);exact this
  have h3:n%256^i/256^(4*(i/4))%ae=n%256^i/256^(4*(i/4)):=Nat.mod_eq_of_lt (by omega);rw[h3] at hs ⊢;exact Nat.mod_eq_of_lt hs
 ·rename_i e
  unfold xP;rw[GI]
  generalize n/256^i%256=b at*
  by_cases h:j<i/4
  ·have e1:256^i*b=256^(4*j)*(ae*(256^(i-4*j-4)*b)):=by
    rw[show ae=256^4 from rfl,<-Nat.mul_assoc,<-Nat.mul_assoc,<-Nat.pow_add,<-Nat.pow_add,show 4*j+4+(i-4*j-4)=i by omega]
   rw[e1,Nat.add_mul_div_left _ _ (Nat.pow_pos (by omega)),Nat.add_mul_mod_self_left]
  ·have h1:i+1<=4*j:=by omega
   have h2:256^(i+1)<=256^(4*j):=gz h1;have h3:n%256^i+256^i*b<256^(4*j):=by
    have:256^i*(b+1)<=256^i*256:=Nat.mul_le_mul_left _ hb;rw[Nat.mul_add] at this;rw[Nat.pow_succ] at h2;omega
   rw[Nat.div_eq_of_lt h3,Nat.div_eq_of_lt (by omega)]
def vK(n M p j:Nat):Nat:=if M-1-j<p then n/256^(M-1-j)%256 else 0
theorem Me(n M j:Nat):vK n M 0 j=0:=by simp[vK]
def MB(n M p v:Nat)(hp:p<M)(hv:v=n/256^p%256):(NV .u8 (row M (vK n M p))).set (M-1-p) (.int .u8 (v:Int))=NV .u8 (row M (vK n M (p+1))):=by
 rw[cZ,bJ (g:=vK n M (p+1))];intro j hj;unfold vK
 by_cases e:j=M-1-p
 ·subst e;rw[if_pos rfl,if_pos (by omega),show M-1-(M-1-p)=p by omega,hv]
 ·rw[if_neg e]
  by_cases c:M-1-j<p
  ·rw[if_pos c,if_pos (by omega)]
  ·rw[if_neg c,if_neg (by omega)]
theorem Jt(l:List UInt8):lX (0::l)=lX l:=by
 unfold lX;rw[List.reverse_cons,List.map_append,qg];simp[val]
theorem zl:∀l:List UInt8,lX (l.dropWhile (· ==0))=lX l
 |[]=>rfl
 |x::l=>by
  by_cases h:x=0
  ·subst h;rw[List.dropWhile_cons_of_pos (by rfl),Jt];exact zl l
  ·rw[List.dropWhile_cons_of_neg (by simpa using h)]
def zo:∀l:List UInt8,(l.dropWhile (· ==0)).head? ≠some 0
 |[]=>by simp
 |x::l=>by
  by_cases h:x=0
  ·subst h;rw[List.dropWhile_cons_of_pos (by rfl)];exact zo l
  ·rw[List.dropWhile_cons_of_neg (by simpa using h)];simpa using h
def lw(l:List UInt8):ByteArray:=⟨l.toArray⟩
theorem wJ(l:List UInt8):(lw l).size=l.length:=by show l.toArray.size=_;simp
theorem XQ(n M:Nat)(h:n<256^M):lw (((row M (vK n M M)).map UInt8.ofNat).dropWhile (· ==0))=bF n:=by
 have e1:lX ((row M (vK n M M)).map UInt8.ofNat)=n:=by
  unfold lX;have e2:((row M (vK n M M)).map UInt8.ofNat).reverse.map UInt8.toNat=row M (fun j=>n/256^j%256):=by
   rw[<-List.map_reverse,nS]
   ·apply List.ext_getElem?
    intro j
    by_cases hj:j<M
    ·rw[List.getElem?_reverse (by rw[ah];exact hj),ah,bG (by omega),bG hj];unfold vK;rw[if_pos (by omega),show M-1-(M-1-j)=j by omega]
    ·rw[List.getElem?_eq_none (by simp[ah];omega),List.getElem?_eq_none (by rw[ah];omega)]
   ·intro d hd;rw[List.mem_reverse] at hd;exact jY (B:=256) (fun j=>by unfold vK;split<;>omega) d hd
  rw[e2,oO 256 (by omega),Nat.mod_eq_of_lt h]
 have e3:=FI (zo ((row M (vK n M M)).map UInt8.ofNat));rw[zl,e1] at e3;unfold lw bF;rw[e3]
def qdb(l:List Nat):ZB l=lw (l.map UInt8.ofNat):=rfl
theorem jZ{B n i:Nat}(hB:2<=B)(h:i<(ag B n).length):(ag B n)[i]? =some (n/B^i%B):=lm hB n i h
def Ub(n i k:Nat)(hk:k<4):n/ae^i%ae/2^(8*k)%256=n/256^(4*i+k)%256:=by
 have e:ae=256^k*256^(4-k):=(by rw[<-Nat.pow_add,show k+(4-k)=4 by omega];rfl);have e8:2^(8*k)=256^k:=(by rw[Nat.pow_mul]);rw[DY,e,Nat.mod_mul,e8,Nat.add_mul_div_left _ _ (Nat.pow_pos (by omega)),Nat.div_eq_of_lt (Nat.mod_lt _ (Nat.pow_pos (by omega))),Nat.zero_add,Nat.div_div_eq_div_mul,<-Nat.pow_add];have e2:256^(4-k)=256*256^(3-k):=(by rw[show 4-k=(3-k)+1 by omega,Nat.pow_succ,Nat.mul_comm]);rw[e2,Nat.mod_mul,Nat.add_mul_mod_self_left,Nat.mod_mod]
theorem D5{B:Nat}(hB:2<=B){l:List Nat}(hl:∀d∈l,d<B){m:Nat}(hm:m<=l.length)(hv:val B (l.take m)=val B l)(hz:m=0∨∃h:m-1<l.length,l[m-1]≠0):m=(ag B (val B l)).length:=by
 rw[<-Qi hB hl hm hv hz,List.length_take];omega
def Ju{B:Nat}{l:List Nat}{m:Nat}(h0:0<m)(hm:m<=l.length)(hv:val B (l.take m)=val B l)(h:m-1<l.length)(hz:l[m-1]=0):val B (l.take (m-1))=val B l:=by
 obtain⟨k,rfl⟩:∃k,m=k+1:=⟨m-1,by omega⟩;exact XF hm hv (by simpa using hz)
def wK{B:Nat}(hB:2<=B):∀{l:List Nat},(∀d∈l,d<B)->l.take (ag B (val B l)).length=ag B (val B l):=by
 have key:∀(n:Nat) (l:List Nat),l.length=n->(∀d∈l,d<B)->∃m,m<=l.length∧l.take m=ag B (val B l):=by
  intro n
  induction n with
  |zero=>intro l hl h;have:l=[]:=List.eq_nil_of_length_eq_zero hl;subst this;exact⟨0,by simp,by simp[val,ja]⟩
  |succ n ih=>
   intro l hl h
   by_cases hz:l[n]'(by omega)=0
   ·have e:l=l.take n++[0]:=by
     conv=>lhs;rw[<-List.take_append_drop n l]
     rw[List.drop_eq_getElem_cons (by omega),hz,List.drop_eq_nil_of_le (by omega)]
    obtain⟨m,h1,h2⟩:=ih (l.take n) (by simp;omega) (Qh h n);have hv:val B l=val B (l.take n):=by
     conv=>lhs;rw[e]
     rw[Qg];omega
    refine⟨m,by simp at h1;omega,?_⟩;rw[hv,<-h2,List.take_take];congr 1;simp at h1;omega
   ·exact⟨n+1,by omega,Qi hB h (by omega) (by rw[List.take_of_length_le (by omega)]) (.inr ⟨by omega,by simpa using hz⟩)⟩
 intro l h;obtain⟨m,h1,h2⟩:=key _ l rfl h;have:m=(ag B (val B l)).length:=by rw[<-h2,List.length_take];omega
 rw[<-this];exact h2
end Go.Via
namespace Go.Via
open Go Go.RowKit
inductive Qu where
 |q (r:Rat)
 |raw (b1:Bool) (s1:ByteArray) (b2:Bool) (s2:ByteArray)
def Qu.cells:Qu->List Value
 | .q r=>[.bool (decide (r.num<0)),.string (bF r.num.natAbs),.bool false,.string (dm r)]
 | .raw b1 s1 b2 s2=>[.bool b1,.string s1,.bool b2,.string s2]
inductive XT where
 |mk (op:Int) (name:List UInt8) (num:Qu) (args:List XT)
def XT.op:XT->Int| .mk o _ _ _=>o
def XT.name:XT->List UInt8| .mk _ n _ _=>n
def XT.num:XT->Qu| .mk _ _ n _=>n
def XT.args:XT->List XT| .mk _ _ _ l=>l
def Uc(op:Int)(name:List UInt8)(num:Qu)(a:Option Addr)(n cap:Nat):List Value:= .int .i64 op:: .string (lw name)::num.cells++[.slice a n cap]
mutual
inductive Jv(T:KU):XT->List Value->Prop
 |mk {op:Int} {name:List UInt8} {num:Qu} {args:List XT} {a:Option Addr} {cap:Nat} (h:Ho T args a) (hc:args.length<=cap):
  Jv T (.mk op name num args) (Uc op name num a args.length cap)
inductive Ho(T:KU):List XT->Option Addr->Prop
 |nil {a:Option Addr}:Ho T [] a
 |cons {x:XT} {l:List XT} {g off:Nat} {cs c:List Value} (hm:(g,cs)∈T) (hc:(cs.drop off).take 7=c) (hx:Jv T x c) (hl:Ho T l (some ⟨g,off+7,none⟩)):Ho T (x::l) (some ⟨g,off,none⟩)
end
mutual
def Jv.mono{T U:KU}(hs:∀p∈T,p∈U):∀{x:XT} {c:List Value},Jv T x c->Jv U x c
 |_,_,.mk h hc=> .mk (Ho.mono hs h) hc
def Ho.mono{T U:KU}(hs:∀p∈T,p∈U):∀{l:List XT} {a:Option Addr},Ho T l a->Ho U l a
 |_,_,.nil=> .nil
 |_,_,.cons hm hc hx hl=> .cons (hs _ hm) hc (Jv.mono hs hx) (Ho.mono hs hl)
end
def Lh{op:Int}{name:List UInt8}{num:Qu}{a:Option Addr}{n cap:Nat}:(Uc op name num a n cap).length=7:=by cases num<;>rfl
def Lj{op:Int}{name:List UInt8}{num:Qu}{a:Option Addr}{n cap:Nat}:(Uc op name num a n cap).all Value.simpleT=true:=by cases num<;>rfl
theorem Jv.length{T:KU}{x:XT}{c:List Value}(h:Jv T x c):c.length=7:=by cases h;exact Lh
theorem Jv.simple{T:KU}{x:XT}{c:List Value}(h:Jv T x c):c.all Value.simpleT=true:=by cases h;exact Lj
theorem Ho.get{T:KU}:∀{l:List XT} {a:Option Addr} {i:Nat} {x:XT},Ho T l a->l[i]? =some x->∃g off cs c,a=some ⟨g,off,none⟩∧(g,cs)∈T∧(cs.drop (off+i*7)).take 7=c∧Jv T x c
 |[],_,i,x,_,hx=>by simp at hx
 |y::l,_,0,x,.cons hm hc hy hl,hx=>by
  simp at hx;subst hx;exact⟨_,_,_,_,rfl,hm,by rw[Nat.zero_mul,Nat.add_zero];exact hc,hy⟩
 |y::l,_,i+1,x,.cons hm hc hy hl,hx=>by
  rw[List.getElem?_cons_succ] at hx;obtain⟨g,off,cs,c,h1,h2,h3,h4⟩:=Ho.get hl hx;simp only[Option.some.injEq,Addr.mk.injEq,and_true] at h1;obtain⟨rfl,rfl⟩:=h1;exact⟨_,_,cs,c,rfl,h2,by rw[<-h3,Nat.succ_mul];congr 2;omega,h4⟩
mutual
def XT.size:XT->Nat
 | .mk _ _ _ l=>1+XT.sizes l
def XT.sizes:List XT->Nat
 |[]=>0
 |x::l=>XT.size x+XT.sizes l
end
abbrev Dw:=List UInt8
def qfu(c:UInt8):Bool:=(decide (65<=c.toNat)&&decide (c.toNat<=90))||(decide (97<=c.toNat)&&decide (c.toNat<=122))
def isDig(c:UInt8):Bool:=decide (48<=c.toNat)&&decide (c.toNat<=57)
def wch(c:UInt8):Bool:=qfu c||isDig c||c==95
def zch(c:UInt8):Bool:=decide (32<=c.toNat)&&decide (c.toNat<=126)
def qiG(l:Dw):Bool:=l.all zch&&decide (1<=l.length)&&decide (l.length<=40)
def qkq:Dw:=[60,61,43,45,124,92,42,38,40,41,91,93,44]
def spL:Dw:=[32,9,10]
def qkr:List (Dw×Nat×Nat):=[([111,114],24,1),([97,110,100],23,2),([110,111,116],25,3),([60],21,4),([61],22,4),([43],18,5),([45],19,5),([124],7,5),([92],9,5),([42],20,6),([38],8,6),([100,117,114,105,110,103],12,7)]
def qks:List (Dw×Nat×Nat):=[
 ([119,104,101,110],10,1),([100,101,102,105,110,101,100],11,1),([100,105,115,116,97,110,99,101,50],13,2),([115,112,101,101,100,50],14,1),([119,105,116,104,105,110],15,3),([105,110,115,105,100,101],16,2),([97,114,101,97,50],17,1),
 ([115,111,109,101,116,105,109,101],26,1),([97,108,119,97,121,115],27,1),([108,97,115,116,105,110,103],28,2),([115,104,105,102,116],29,2),([108,101,97,115,116],30,2)]
def qiH:List Dw:=[[118,97,108,117,101],[111,98,106,101,99,116,115],[119,104,101,114,101],[112,97,105,114,115],[112,111,105,110,116],[111,98,106,101,99,116],[122,111,110,101]]
def resL:List Dw:=qiH++qkr.map (·.1)++qks.map (·.1)
structure Ps where
 s:Dw
 pos:Nat
 k:Nat
 at_:Nat
 tx:Dw
 bat:Nat
 be:Nat
 fail:Bool
def Ps.ok(p:Ps):Prop:=p.s.length<=4096∧p.pos<=p.s.length
def Ps.tok(p:Ps)(a k n:Nat):Ps:={p with pos:=a+n,k:=k,at_:=a,tx:=(p.s.drop a).take n}
def dgs(l:Dw):Nat:=(l.takeWhile isDig).length
def qgn(l:Dw):Nat:=
 match l.drop (dgs l) with
 |47::c::r=>if isDig c then dgs l+1+dgs (c::r) else dgs l
 |_=>dgs l
def quo:Dw->Option (Dw×Nat)
 |[]=>none
 |[c]=>if c=34 then some ([],0) else none
 |c::d::l=>if c=34 then(if d=34 then(quo l).map fun x=>(34::x.1,x.2+2) else some ([],0)) else(quo (d::l)).map fun x=>(c::x.1,x.2+1)
def Ps.quoted(p:Ps)(a:Nat):Ps:=
 match quo (p.s.drop (a+1)) with
 |some (n,k)=>if qiG n then {p with pos:=a+k+2,k:=3,at_:=a,tx:=n} else {p with k:=5,at_:=a,tx:=[]}
 |none=>{p with k:=5,at_:=a,tx:=[]}
def Ps.skip(p:Ps):Nat:=p.pos+((p.s.drop p.pos).takeWhile spL.contains).length
def Ps.adv(p:Ps):Ps:=
 match p.s.drop p.skip with
 |[]=>{p with pos:=p.skip,k:=0,at_:=p.skip,tx:=[]}
 |c::r=>
  if qfu c then p.tok p.skip 1 ((c::r).takeWhile wch).length
  else if isDig c then p.tok p.skip 2 (qgn (c::r))
  else if c=34 then({p with pos:=p.skip}).quoted p.skip
  else if qkq.contains c then p.tok p.skip 4 1
  else p.tok p.skip 5 0
def Ps.stop(p:Ps)(e:Nat):Ps:=if p.fail then p else {p with bat:=p.at_,be:=e,fail:=true}
def Ps.is(p:Ps)(x:Dw):Bool:= !p.fail&&(p.k==1||p.k==4)&&p.tx==x
def Ps.want(p:Ps)(x:Dw):Ps:=if p.is x then p.adv else p.stop 15
def Ps.name(p:Ps):Ps:=if p.fail||p.k !=1||resL.contains p.tx then p.stop 15 else if 40<p.tx.length then p.stop 34 else p.adv
def qdc(l:Dw):Nat:=l.foldl (fun n c=>n*10+(c.toNat-48)) 0
def qgo(t:Dw):Option Rat:=
 let a:=t.takeWhile isDig
 match t.drop a.length with
 |[]=>some (qdc a:Rat)
 |_::b=>if qdc b=0 then none else some (Rat.divInt (qdc a) (qdc b))
def qkt(q:Rat):Bool:=decide (q.den=1)&&decide (1<=q.num)&&decide (q.num<=1073741824)
def XT.numd(op:Nat)(q:Rat):XT:= .mk op [] (.q q) []
def Ps.number(p:Ps)(object:Bool):Rat×Ps:=
 if p.fail||p.k !=2 then(0,p.stop 15) else
 match qgo p.tx with
 |none=>(0,p.stop 6)
 |some q=>if object&& !qkt q then(0,p.stop 27) else(q,p.adv)
def qgp:Dw:=[45]
def Ps.signed(p:Ps):XT×Ps:=
 if p.is qgp then(.numd 1 (-(p.adv.number false).1),(p.adv.number false).2) else(.numd 1 (p.number false).1,(p.number false).2)
end Go.Via
