/-
  Part 5 (chapter 32): lemmas, walks. Each theorem states its own conditions.
-/
import Derived.Deep.Upon
import Derived.Test.YtaffcpfhedadhaaGreatDoorA04
set_option linter.all false
set_option maxRecDepth 20000
set_option maxHeartbeats 20000000
namespace Go.Via
variable[Mo]
open Go Go.RowKit
def ZE(l:List Nat):ByteArray:=⟨(l.map UInt8.ofNat).toArray⟩
theorem Xx(l:List Nat):strOfNums (l.map fun(n:Nat)=>(n:Int))=ZE l:=by simp[strOfNums,ZE]
section
variable{P:Program}{bl:List Nat}{ops:Array Oper}{K:St->Prop}{rest:List Oper}{nt:Nat}{t:List (Nat×Value)}{L:List aC}{d:Nat}{ty:TypeId}{pos:String}{af:Array Edge}{g:Option (Nat×Bool)}{x y:Operand}
def Ol{T n nn:Nat}{parts:List (Nat×Operand)}(ps:List (Nat×Value)){e:Nat}{cs:List Value}(mk:Nat->List aC)(hd:Nat.blt d nt=true)(hg:au ops ⟨some d,.buildSlice T n parts.toArray,ty,pos,af,g⟩ t=some true)(hx:parts.map (fun p=>(p.1,ev t p.2))=ps.map (fun p=>(p.1,some p.2)))
 (hb:∀w,(Instr.buildSlice T n ps.toArray).run P w= .ok (.slice (some ⟨w.heap.size,0,none⟩) n n) (w.alloc (.cells cs.toArray e)))(hnn:cs.length=nn)(hL:∀b,L++[⟨some b,e,cs,nn,true⟩]=mk b)(h:∀b,aU P bl ops rest ⟨nt,(d,az (some b) 0 n n)::t,mk b⟩ K)(hem:Nat.blt e cZ=true:=by rfl):
 aU P bl ops (⟨some d,.buildSlice T n parts.toArray,ty,pos,af,g⟩::rest) ⟨nt,t,L⟩ K:=
 Zp (e:=e) (cs:=cs.toArray) hd hg rfl (by
 show(jZ t parts).bind _=_;rw[Cj hx];exact Za (by simpa using hem) hb) fun b=>by
  subst hnn;have:=h b;rw[<-hL b] at this;exact this
def ZF{T e N gg:Nat}{k:IntKind}{h':Int}{inf:TI}(len':Nat)(hT:P.underlying T=some (.array N e))(hinf:dP P e inf=true)(hd:Nat.blt d nt=true)(hg:au ops ⟨some d,.slice T x none (some y) none,ty,pos,af,g⟩ t=some true)(hx:ev t x=some (.pointer (some ⟨gg,0,none⟩)))(hy:ev t y=some (.int k h'))(h0:0<=h')(h1:h'<=N)(hl:h'.toNat=len')
 (h:aU P bl ops rest ⟨nt,(d,az (some gg) 0 len' N)::t,L⟩ K):aU P bl ops (⟨some d,.slice T x none (some y) none,ty,pos,af,g⟩::rest) ⟨nt,t,L⟩ K:=
 fG hd hg rfl (fun B a w hrel=>by
 have he:P.elem T=e:=(by simp[Program.elem,hT]);have hN:P.arrayLen T=N:=(by simp[Program.arrayLen,hT]);have h2:=hrel.ev hx;have h3:=hrel.ev hy;have r1:=run_sliceAt_array_h (P:=P) w T ⟨gg,0,none⟩ (by rw[he,hN];exact hT) k h' h0 (by rw[hN];exact h1);rw[he,oD hinf w] at r1;simp only[Result.andThen_ok] at r1;have e1:slicedAt (⟨gg,0,none⟩:Addr) 0 h'.toNat (P.arrayLen T) inf.size=az (some gg) 0 len' N:=by
  unfold slicedAt az;rw[hl,hN];simp[ku]
 rw[e1] at r1;simp[execOp,h2,h3,r1]) h
def TD{T:Nat}{s:ByteArray}{k:IntKind}{l:Int}{r:ByteArray}(hT:P.underlying T=some .string)(hd:Nat.blt d nt=true)(hg:au ops ⟨some d,.slice T x (some y) none none,ty,pos,af,g⟩ t=some true)(hx:ev t x=some (.string s))(hy:ev t y=some (.int k l))(h0:0<=l)(h1:l<=s.size)(hr:s.extract l.toNat s.size=r)
 (h:aU P bl ops rest ⟨nt,(d,.string r)::t,L⟩ K):aU P bl ops (⟨some d,.slice T x (some y) none none,ty,pos,af,g⟩::rest) ⟨nt,t,L⟩ K:=
 fG hd hg rfl (fun B a w hrel=>by
 have h2:=hrel.ev hx;have h3:=hrel.ev hy;have r1:=run_sliceAt_string (P:=P) w T (.string s) (some (.int k l)) none none hT;rw[run_slice_string_l (P:=P) w T s hT k l h0 h1,hr] at r1;simp[execOp,h2,h3,r1]) h
def y9{S e D:Nat}{b:aC}{gg len cap:Nat}{l:List Nat}{r:ByteArray}(k:Nat)(hS:P.underlying S=some (.slice e))(he:P.underlying e=some (.int .u8))(hD:P.underlying D=some .string)(hd:Nat.blt d nt=true)(hg:au ops ⟨some d,.convert S D x,ty,pos,af,g⟩ t=some true)
 (hk:(blank bl L)[k]? =some b)(hb:b.base=some gg)(hx:ev t x=some (az (some gg) 0 len cap))(hcs:b.cs.take len=NV .u8 l)(hl:l.length=len)(hr:ZE l=r)
 (h:aU P bl ops rest ⟨nt,(d,.string r)::t,L⟩ K):aU P bl ops (⟨some d,.convert S D x,ty,pos,af,g⟩::rest) ⟨nt,t,L⟩ K:=
 fG hd hg rfl (fun B a w hrel=>by
 have h1:=run_convert_bytes_arg (P:=P) w S e hS he gg 0 len cap (l.map fun(n:Nat)=>(n:Int)) (by simpa using hl) (fun i hi=>by
 have hc:b.cs[i]? =some (.int .u8 ((l.map fun(n:Nat)=>(n:Int)).getD i 0)):=by
  have h2:(b.cs.take len)[i]? =(NV .u8 l)[i]? :=(by rw[hcs]);rw[List.getElem?_take,if_pos hi] at h2;rw[h2];have hil:i<l.length:=(by omega);simp[NV,List.getElem?_eq_getElem hil]
 obtain⟨g',hg',h2⟩:=hrel.mem.cell hk hc;rw[hb] at hg';cases hg';rw[Nat.zero_add];exact h2) D hD
 rw[Xx,hr] at h1;have h2:=hrel.ev hx;unfold az at h2;simp only[Option.map_some] at h2;simp[execOp,h2,h1]) h
def qg0{T e:Nat}{b b2:aC}{gg len cap len2 cap2:Nat}{inf:TypeInfo}(k k2:Nat)(L':List aC)(cs':List Value)(hT:P.underlying T=some (.slice e))(hi:P.info? e=some inf)(hs:inf.size=1)(hd:Nat.blt d nt=true)
 (hg:au ops ⟨some d,.call {callee:= .builtin .copy,args:= #[x,y],argTypes:= #[T,T]},ty,pos,af,g⟩ t=some true)(hk:L[k]? =some b)(ho:b.own=true)(hb:b.base=some gg)(hx:ev t x=some (az (some gg) 0 len cap))
 (hk2:L[k2]? =some b2)(hy:ev t y=some (az b2.base 0 len2 cap2))(hl2:b2.cs.length=len2)(hle:len2<=len)(hfit:len2<=b.cs.length)(h1:∀v∈b2.cs,v.oneCell'=true)(hcs:b2.cs++b.cs.drop len2=cs')(hL:L.set k {b with cs:=cs'}=L')
 (h:aU P bl ops rest ⟨nt,(d,.int .i64 len2)::t,L'⟩ K):aU P bl ops (⟨some d,.call {callee:= .builtin .copy,args:= #[x,y],argTypes:= #[T,T]},ty,pos,af,g⟩::rest) ⟨nt,t,L⟩ K:=
 LJ hd hg rfl rfl (X:=Unit) (nx:=fun _=>⟨nt,(d,.int .i64 len2)::t,L'⟩) (fun hd'=>IE fun B a w hr=>by
 have hx':=hr.ev hx;have hy':=hr.ev hy;have fin:∀v w',(Builtin.copy_ #[T,T] ty #[az (some gg) 0 len cap,az b2.base 0 len2 cap2]).run P w= .ok v w'->(execOp a.eval ⟨some d,.call {callee:= .builtin .copy,args:= #[x,y],argTypes:= #[T,T]},ty,pos,af,g⟩).run P w= .ok (.value v) w':=fun v w' hv=>by
  simp[execOp,resolve,invoke,builtin,hx',hy',hv]
 by_cases hz:b.n≠0∨b.cs≠[]
 case neg=>
  have hz2:b.cs=[]:=by
   by_cases h0:b.cs=[]
   ·exact h0
   ·exact absurd (.inr h0) hz
  have hl0:len2=0:=(by rw[hz2] at hfit;simpa using hfit);subst hl0;have h0:b2.cs=[]:=List.eq_nil_of_length_eq_zero hl2;refine⟨goInt 0,w,(),fin _ _ (by
 unfold az;have hl:∀v:Nat,(loadCells ⟨v,0,none⟩ 0).run P w= .ok #[] w:=fun v=>run_loadCells_list w ⟨v,0,none⟩ [] (fun j u hj=>by simp at hj)
 cases b2.base<;>simp[Builtin.copy_,run_underlying hT,Builtin.lenOf,Builtin.firstCells,sizeOf,typeInfo,hi,storeCells,goInt,hl]),?_⟩
  have e1:L'=L:=by
   rw[<-hL,<-hcs,h0];simp only[List.nil_append,List.drop_zero];obtain⟨q1,q2⟩:=List.getElem?_eq_some_iff.1 hk;have:({b with cs:=b.cs}:aC)=b:=rfl
   rw[this,<-q2];exact List.set_getElem_self q1
  rw[e1];exact hr.put hd' hr.mem
 obtain⟨cur,⟨e',fr,c1,cfr,_⟩,c2,c3⟩:=((hr.mem.blk k b hk).1 gg hb).cells hz;obtain⟨rfl,rfl⟩:=cfr ho;have hcl:b.cs.length<=cur.size:=by
  have:=congrArg List.length c3;simp only[List.length_take,Array.length_toList] at this;omega
 cases hb2:b2.base with
 |none=>
  have h0:=((hr.mem.blk k2 b2 hk2).2 hb2).1;have hl0:len2=0:=(by rw[<-hl2,h0];rfl);subst hl0;refine⟨goInt 0,w,(),fin _ _ (by
 rw[hb2];unfold az;simp[Builtin.copy_,run_underlying hT,Builtin.lenOf,Builtin.firstCells,sizeOf,typeInfo,hi,storeCells,goInt]),?_⟩
  have e1:L'=L:=by
   rw[<-hL,<-hcs,h0];simp only[List.nil_append,List.drop_zero];obtain⟨q1,q2⟩:=List.getElem?_eq_some_iff.1 hk;have:({b with cs:=b.cs}:aC)=b:=rfl
   rw[this,<-q2];exact List.set_getElem_self q1
  rw[e1];exact hr.put hd' hr.mem
 |some g2=>
  have hsrc:∀j v,b2.cs[j]? =some v->w.cell? ((⟨g2,0,none⟩:Addr).add j)=some v:=fun j u hj=>by
   obtain⟨g',hg',h2⟩:=hr.mem.cell hk2 hj;rw[hb2] at hg';cases hg';rw[ku,Nat.zero_add];exact h2
  have r1:=run_copy_row (P:=P) w T T ty e gg 0 len cap ⟨g2,0,none⟩ len2 cap2 cur b.e b2.cs hT (by simp[hi,hs]) c1 (by rw[hl2];exact(Nat.min_eq_left hle).symm) hsrc (by omega) h1;refine⟨goInt b2.cs.length,_,(),fin _ _ (by rw[hb2];exact r1),?_⟩;rw[hl2];have h5:=hr.mem.set hk ho hb (cur.toList.take 0++b2.cs++cur.toList.drop (0+b2.cs.length)).toArray cs'
   (by simp only[List.size_toArray,List.length_append,List.length_take,List.length_drop,Array.length_toList];omega)
   (by
    rw[<-hcs];simp only[List.take_zero,List.nil_append,Nat.zero_add,hl2];rw[List.length_append,List.length_drop,hl2];rw[List.take_append,hl2];rw[List.take_of_length_le (by omega)]
    congr 1
    rw[<-c3];simp only[List.length_take,Array.length_toList];rw[List.drop_take]
    congr 1
    omega)
  rw[<-hL];rw[hl2] at h5;exact hr.put hd' h5) fun _=>h
def KP(P:Program)(e:Nat)(s:Nat)(z:Value):Prop:=((P.info? e).map fun inf=>(inf.size,Nat.ble inf.bytes 512,inf.zero))=some (s,true,some z)∧e<cZ
def zf{e s:Nat}{z:Value}(h:KP P e s z):∃inf,P.info? e=some inf∧inf.zero=some z∧inf.size=s∧inf.bytes<=512:=by
 unfold KP at h;replace h:=h.1;cases hq:P.info? e with
 |none=>rw[hq] at h;cases h
 |some inf=>
  rw[hq] at h;simp only[Option.map_some,Option.some.injEq,Prod.mk.injEq] at h;obtain⟨h1,h2,h3⟩:=h;exact⟨inf,rfl,h3,h1,Nat.le_of_ble_eq_true h2⟩
def eY{T e:Nat}{k:IntKind}{c:Nat}{z:Value}{m:Int}(cs:List Value)(mk:Nat->List aC)(hT:P.underlying T=some (.slice e))(he:KP P e 1 z)(hd:Nat.blt d nt=true)
 (hg:au ops ⟨some d,.makeSlice T x y,ty,pos,af,g⟩ t=some true)(hx:ev t x=some (.int k m))(hy:ev t y=some (.int k m))(hz1:z.cells= #[z])(hm:m=(c:Int))(hc:c<=137438953472)(hcs:List.replicate c z=cs)(hL:∀b,L++[⟨some b,e,cs,c,true⟩]=mk b)
 (h:∀b,aU P bl ops rest ⟨nt,(d,az (some b) 0 c c)::t,mk b⟩ K):aU P bl ops (⟨some d,.makeSlice T x y,ty,pos,af,g⟩::rest) ⟨nt,t,L⟩ K:=by
 obtain⟨inf,h1,h2,h3,h5⟩:=zf he;exact Qe he.2 cs mk hT h1 h2 h3 hz1 hd hg hx hy hm h5 hc hcs hL h
def kZ{T e s:Nat}{z:Value}{b:aC}{len cap b2o n2 c2:Nat}{b2:aC}(k k2:Nat)(mk:AR (len+n2) s->List aC)(hT:P.underlying T=some (.slice e))(hi:KP P e s z)(hd:Nat.blt d nt=true)
 (hg:au ops ⟨some d,.call {callee:= .builtin .append,args:= #[x,y],argTypes:= #[T,T]},ty,pos,af,g⟩ t=some true)
 (hk:L[k]? =some b)(ho:b.own=true)(he:b.e=e)(hx:ev t x=some (az b.base 0 len cap))(hk2:L[k2]? =some b2)(hb2:b2.base=some b2o)(hy:ev t y=some (az (some b2o) 0 n2 c2))(hs:Nat.blt 0 s=true)(hzs:z.cells.size=s)(hpos:Nat.blt 0 n2=true)
 (hlen:b.cs.length=len*s)(hcap:len<=cap)(hn:cap*s<=b.n)(hlen2:b2.cs.length=n2*s)(h1:∀v∈b2.cs,v.oneCell'=true)(hmax:len+n2<=17179869184)
 (hL:∀r,L.set k ⟨some r.g,e,b.cs++b2.cs,r.n,true⟩=mk r)
 (h:∀r:AR (len+n2) s,aU P bl ops rest ⟨nt,(d,az (some r.g) 0 (len+n2) r.cap)::t,mk r⟩ K):
 aU P bl ops (⟨some d,.call {callee:= .builtin .append,args:= #[x,y],argTypes:= #[T,T]},ty,pos,af,g⟩::rest) ⟨nt,t,L⟩ K:=by
 obtain⟨inf,i1,i2,i3,i5⟩:=zf hi;subst i3;exact Qg hi.2 k k2 mk hT i1 i2 (by simpa using hs) hzs (by omega) hd hg hk ho he hlen hcap hn hx hk2 hlen2 (by simpa using hpos) hb2 hy h1 hmax hL h
def IJ{T e:Nat}{z:Value}{b b2:aC}{gg len cap len2 cap2:Nat}(k k2:Nat)(L':List aC)(cs':List Value)(hT:P.underlying T=some (.slice e))(hi:KP P e 1 z)(hd:Nat.blt d nt=true)
 (hg:au ops ⟨some d,.call {callee:= .builtin .copy,args:= #[x,y],argTypes:= #[T,T]},ty,pos,af,g⟩ t=some true)(hk:L[k]? =some b)(ho:b.own=true)(hb:b.base=some gg)(hx:ev t x=some (az (some gg) 0 len cap))
 (hk2:L[k2]? =some b2)(hy:ev t y=some (az b2.base 0 len2 cap2))(hl2:b2.cs.length=len2)(hle:len2<=len)(hfit:len2<=b.cs.length)(h1:∀v∈b2.cs,v.oneCell'=true)(hcs:b2.cs++b.cs.drop len2=cs')(hL:L.set k {b with cs:=cs'}=L')
 (h:aU P bl ops rest ⟨nt,(d,.int .i64 len2)::t,L'⟩ K):aU P bl ops (⟨some d,.call {callee:= .builtin .copy,args:= #[x,y],argTypes:= #[T,T]},ty,pos,af,g⟩::rest) ⟨nt,t,L⟩ K:=by
 obtain⟨inf,i1,i2,i3,i5⟩:=zf hi;exact qg0 k k2 L' cs' hT i1 i3 hd hg hk ho hb hx hk2 hy hl2 hle hfit h1 hcs hL h
end
def aV.toFront{B:Bs}{w:World}{L:List aC}{k:Nat}{b:aC}(h:aV B L w)(hk:L[k]? =some b):aV B (b::L.eraseIdx k) w:=by
 refine h.reindex (fun i=>if i=0 then k else if i-1<k then i-1 else i) (fun i c hc=>?_) (fun i j _ _ e=>?_)
 ·cases i with
  |zero=>simp at hc;subst hc;simpa using hk
  |succ i=>
   simp only[List.getElem?_cons_succ,List.getElem?_eraseIdx] at hc
   by_cases c1:i<k
   ·rw[if_pos c1] at hc;simpa[c1] using hc
   ·rw[if_neg c1] at hc;simpa[c1] using hc
 ·skip
  split at e<;>split at e<;>(try split at e)<;>(try split at e)<;>omega
def aV.fromFront{B:Bs}{w:World}{L:List aC}{k:Nat}{b b':aC}(hk:L[k]? =some b)(h:aV B (b'::L.eraseIdx k) w):aV B (L.set k b') w:=by
 have hkl:=(List.getElem?_eq_some_iff.1 hk).1;refine h.reindex (fun i=>if i=k then 0 else if i<k then i+1 else i) (fun i c hc=>?_) (fun i j _ _ e=>?_)
 ·by_cases e:i=k
  ·subst e;rw[List.getElem?_set_self hkl] at hc;simpa using hc
  ·rw[List.getElem?_set_ne (Ne.symm e)] at hc
   by_cases c1:i<k
   ·simp[e,c1,List.getElem?_eraseIdx,hc]
   ·obtain⟨m,rfl⟩:∃m,i=m+1:=⟨i-1,by omega⟩;simp only[if_neg e,if_neg c1,List.getElem?_cons_succ,List.getElem?_eraseIdx];rw[if_neg (by omega)];exact hc
 ·skip
  split at e<;>split at e<;>(try split at e)<;>(try split at e)<;>omega
def qfW(P:Program)(f:Nat)(b:aC)(args:List Value)(v:Value)(b':aC):Prop:=
 iM P f=true∧∀(B:Bs) (w:World) (R:List aC),B.D=[]->aV B (b::R) w->Calls P f args.toArray w fun e w'=>e= .returned v∧aV B (b'::R) w'
section
variable{P:Program}{bl:List Nat}{ops:Array Oper}{K:St->Prop}{rest:List Oper}{nt:Nat}{t:List (Nat×Value)}{L:List aC}{d:Nat}{ty:TypeId}{pos:String}{af:Array Edge}{g:Option (Nat×Bool)}{x y:Operand}
def qdi{f:Nat}{args:List Operand}{ts:Array TypeId}(vs:List Value){v:Value}{b b':aC}(k:Nat)(L':List aC)(hM:H5 bl=true)(hd:Nat.blt d nt=true)(hg:au ops ⟨some d,.call {callee:= .value (.func f),args:=args.toArray,argTypes:=ts},ty,pos,af,g⟩ t=some true)
 (hv:args.map (ev t)=vs.map some)(hc:qfW P f b vs v b')(hk:L[k]? =some b)(hL:L.set k b'=L')(h:aU P bl ops rest ⟨nt,(d,v)::t,L'⟩ K):
 aU P bl ops (⟨some d,.call {callee:= .value (.func f),args:=args.toArray,argTypes:=ts},ty,pos,af,g⟩::rest) ⟨nt,t,L⟩ K:=
 Zo hd hg hM (X:=Unit) (nx:=fun _=>⟨nt,(d,v)::t,L'⟩) (fun hd' B a w hr=>by
 unfold Oper.wp;rw[pX hc.1 a rfl rfl (vs:=vs.toArray) (by simp[nJ hr hv]) w];refine(hc.2 B.d0 w _ rfl (hr.mem.toFront hk).d0).mono ?_;rintro e w' ⟨rfl,hw⟩;refine⟨(),?_⟩;rw[<-hL];exact hr.put hd' (aV.fromFront hk hw.of_d0)) fun _=>h
end
end Go.Via
namespace Go.Via
variable[Mo]
open Go
def DX{x y:Int}(m n:Nat)(hx:x=(m:Int))(hy:y=(n:Int))(h:m/n<=9223372036854775807):IntKind.i64.wrap (x.tdiv y)=((m/n:Nat):Int):=by
 subst hx;subst hy;rw[<-Int.ofNat_tdiv];generalize m/n=q at*;exact wi (by omega) (by omega) rfl
def ZG{x y:Int}(m n:Nat)(hx:x=(m:Int))(hy:y=(n:Int))(h:m/n<18446744073709551616):IntKind.u64.wrap (x.tdiv y)=((m/n:Nat):Int):=by
 subst hx;subst hy;rw[<-Int.ofNat_tdiv];generalize m/n=q at*;exact wu (by omega) (by omega) rfl
def jy{x y:Int}(m n:Nat)(hx:x=(m:Int))(hy:y=(n:Int)):x.tmod y=((m%n:Nat):Int):=by
 subst hx;subst hy;exact(Int.ofNat_tmod m n).symm
def LM{x s:Int}(m k:Nat)(hx:x=(m:Int))(hs:s=(k:Int))(hk:k<=64)(h:m*2^k<18446744073709551616):IntKind.u64.wrap (x*2^(min s.toNat IntKind.u64.bits))=((m*2^k:Nat):Int):=by
 subst hx;subst hs
 have:min (k:Int).toNat IntKind.u64.bits=k:=by rw[TA];omega
 rw[this]
 exact wu (Int.mul_nonneg (by omega) (Int.pow_nonneg (by omega))) (by have:((m*2^k:Nat):Int)<18446744073709551616:=by omega
                                                                      simpa using this) (by simp)
def qdj{x s:Int}(m k:Nat)(hx:x=(m:Int))(hs:s=(k:Int))(hk:k<=32)(h:m*2^k<4294967296):IntKind.u32.wrap (x*2^(min s.toNat IntKind.u32.bits))=((m*2^k:Nat):Int):=by
 subst hx;subst hs
 have:min (k:Int).toNat IntKind.u32.bits=k:=by rw[TB];omega
 rw[this,qdg]
 have e:((m:Int)*2^k)=((m*2^k:Nat):Int):=by simp
 rw[e];omega
def DY{x s:Int}(m k:Nat)(hx:x=(m:Int))(hs:s=(k:Int))(hk:k<=64):x.fdiv (2^(min s.toNat IntKind.u64.bits))=((m/2^k:Nat):Int):=by
 subst hx;subst hs
 have:min (k:Int).toNat IntKind.u64.bits=k:=by rw[TA];omega
 rw[this,Int.fdiv_eq_ediv_of_nonneg _ (Int.pow_nonneg (by omega))]
 simp
def uS{x:Int}(m:Nat)(hx:x=(m:Int))(h:m<18446744073709551616):IntKind.u64.wrap x=(m:Int):=by subst hx;exact wu (by omega) (by omega) rfl
def LP{x:Int}(m:Nat)(hx:x=(m:Int)):IntKind.u32.wrap x=((m%4294967296:Nat):Int):=by subst hx;rw[qdg];omega
def c8{x:Int}(m:Nat)(hx:x=(m:Int)):IntKind.u8.wrap x=((m%256:Nat):Int):=by subst hx;rw[wu8];omega
def nK{k:IntKind}{l:List Nat}(h:0<l.length):NV k l≠[]:=by
 intro e;have:=congrArg List.length e;rw[aW] at this;simp at this;subst this;simp at h
def Fh(k:IntKind)(l:List Nat):∀v∈NV k l,v.oneCell'=true:=by
 intro v hv;obtain⟨n,_,rfl⟩:=List.mem_map.1 hv;rfl
def jC(t:List (Nat×Value)):List (Nat×Value)->Prop
 |[]=>True
 |p::l=>look t p.1=some p.2∧jC t l
def jC.mem{t:List (Nat×Value)}:∀{t':List (Nat×Value)},jC t t'->∀p∈t',look t p.1=some p.2
 |[],_,p,hp=>by cases hp
 |q::l,h,p,hp=>by
  rcases List.mem_cons.1 hp with rfl|hp
  ·exact h.1
  ·exact jC.mem h.2 p hp
def aG{t:List (Nat×Value)}{d:Nat}{v v':Value}(h:look t d=some v)(e:v=v'):look t d=some v':=e▸h
def Nxt{ι:Type}(B:Bs)(nt:Nat)(T:ι->List (Nat×Value))(LL:ι->List aC)(μ:ι->Nat)(i:ι)(a':Act)(w':World):Prop:=∃j,μ j<μ i∧kH B ⟨nt,T j,LL j⟩ a' w'
def qg1{P:Program}{B:Bs}{Q:Exit->Act->World->Prop}{nt:Nat}{t:List (Nat×Value)}{L:List aC}{ι:Type}{c:Code}(T:ι->List (Nat×Value))(LL:ι->List aC)(μ:ι->Nat)(i₀:ι)(ht:jC t (T i₀))(hL:eH L (LL i₀))
 (round:∀i,At B ⟨nt,T i,LL i⟩ (c.wp P (Exit.then (Nxt B nt T LL μ i) Q))):At B ⟨nt,t,L⟩ ((Code.loop c).wp P Q):=
 Xv (fun i=>⟨nt,T i,LL i⟩) μ i₀ (T i₀) (LL i₀) rfl ht.mem hL round
def qjg{B:Bs}{nt:Nat}{t:List (Nat×Value)}{L:List aC}{ι:Type}{T:ι->List (Nat×Value)}{LL:ι->List aC}{μ:ι->Nat}{i:ι}(j:ι)(hμ:μ j<μ i)(ht:jC t (T j))(hL:eH L (LL j)):
 At B ⟨nt,t,L⟩ (Nxt B nt T LL μ i):=
 Zz (inv:=fun i=>⟨nt,T i,LL i⟩) j (T j) (LL j) rfl hμ ht.mem hL
end Go.Via
namespace Go.Via
variable[Mo]
open Go Go.RowKit
def BF(Q:Nat->Prop):List Nat->Prop
 |[]=>True
 |i::l=>Q i∧BF Q l
def BF.mem{Q:Nat->Prop}:∀{l:List Nat},BF Q l->∀i∈l,Q i
 |[],_,i,h=>by cases h
 |j::l,hh,i,h=>by
  rcases List.mem_cons.1 h with rfl|h
  ·exact hh.1
  ·exact BF.mem hh.2 i h
def zh(P:Program)(ops:Array Oper)(K:St->Prop):Nat->Array Bool->St->Prop
 |0,listed,s=>Region.ready .any ops listed=[]∧K s
 |n+1,listed,s=>∃l:List Nat,Region.ready .any ops listed=l∧l.isEmpty=false∧BF (fun i=>∃o,ops[i]? =some o∧aU P [1000000] ops [o] s (fun s'=>zh P ops K n (listed.setIfInBounds i true) s')) l
def Om{P:Program}{ops:Array Oper}{Q:Exit->Act->World->Prop}{K:St->Prop}{B:Bs}(hpost:∀s' a' w',K s'->kH B s' a' w'->Q .normal a' w'):
 ∀(n:Nat) (listed:Array Bool) (s:St) (a:Act) (w:World),zh P ops K n listed s->kH B s a w->wpAny P .any ops Q n listed a w
 |0,listed,s,a,w,h,hr=>⟨h.1,hpost _ _ _ h.2 hr⟩
 |n+1,listed,s,a,w,h,hr=>by
  obtain⟨l,h1,h2,h3⟩:=h;refine⟨fun h0=>?_,fun i hi=>?_⟩
  ·rw[h1] at h0;subst h0;cases h2
  ·rw[h1] at hi;obtain⟨o,ho,hs⟩:=h3.mem i hi;have:=iK.sound (K':=fun a' w'=>wpAny P .any ops Q n (listed.setIfInBounds i true) a' w') (Q:=Q) hs hr (fun s' a' w' hk hr'=>Om hpost n _ s' a' w' hk hr')
   unfold wpOp;rw[ho];dsimp only
   split
   ·rename_i hw;rw[if_pos hw] at this;exact .inl this
   ·rename_i hw;rw[if_neg hw] at this;exact this
def qdk{P:Program}{B:Bs}{Q:Exit->Act->World->Prop}{nt:Nat}{t:List (Nat×Value)}{L:List aC}{id:Nat}{l:List Oper}(T:List (Nat×Value))(L':List aC)(hm:P.follows .mixedOrders=true)
 (h:zh P l.toArray (fun s'=>s'.nt=nt∧jC s'.t T∧s'.L=L') l.toArray.size (Array.replicate l.toArray.size false) ⟨nt,t,L⟩)(hk:At B ⟨nt,T,L'⟩ (Q .normal)):
 At B ⟨nt,t,L⟩ ((Code.region id l.toArray true).wp P Q):=fun a w hr=>by
 refine wp_region_any hm ?_;refine Om (K:=fun s'=>s'.nt=nt∧jC s'.t T∧s'.L=L') (B:=B) (fun s' a' w' hK hrel=>?_) _ _ ⟨nt,t,L⟩ a _ h hr.drew;obtain⟨h1,h2,h3⟩:=hK;refine hk a' w' ?_;have:=hrel.sub (t:=T) fun d v hd=>h2.mem (d,v) (tV hd)
 rw[h1,h3] at this;exact this
def iW{P:Program}{ops:Array Oper}{K:St->Prop}{n:Nat}{listed:Array Bool}{s:St}(l:List Nat)(h1:Region.ready .any ops listed=l)(h2:l.isEmpty=false)
 (h:BF (fun i=>∃o,ops[i]? =some o∧aU P [1000000] ops [o] s (fun s'=>zh P ops K n (listed.setIfInBounds i true) s')) l):zh P ops K (n+1) listed s:=⟨l,h1,h2,h⟩
end Go.Via
namespace Go.Via
variable[Mo]
open Go Go.RowKit
section
variable{P:Program}{bl:List Nat}{ops:Array Oper}{K:St->Prop}{rest:List Oper}{nt:Nat}{t:List (Nat×Value)}{L:List aC}{d:Nat}{ty:TypeId}{pos:String}{af:Array Edge}{g:Option (Nat×Bool)}{x y:Operand}
def Xy{T e:Nat}{inf:TypeInfo}{bb:Option Nat}{len cap c2:Nat}{b2:Option Nat}(hT:P.underlying T=some (.slice e))(hi:P.info? e=some inf)(hd:Nat.blt d nt=true)
 (hg:au ops ⟨some d,.call {callee:= .builtin .append,args:= #[x,y],argTypes:= #[T,T]},ty,pos,af,g⟩ t=some true)
 (hx:ev t x=some (az bb 0 len cap))(hcap:len<=cap)(hy:ev t y=some (az b2 0 0 c2))(h:aU P bl ops rest ⟨nt,(d,az bb 0 len cap)::t,L⟩ K):
 aU P bl ops (⟨some d,.call {callee:= .builtin .append,args:= #[x,y],argTypes:= #[T,T]},ty,pos,af,g⟩::rest) ⟨nt,t,L⟩ K:=
 fG hd hg rfl (fun B a w hr=>by
 have hx':=hr.ev hx;have hy':=hr.ev hy;have hs:Src P inf.size T (az b2 0 0 c2) 0 [] w:=by
  cases b2 with
  |none=>exact Src.ofNil (P:=P) w hT c2
  |some g2=>exact Src.ofSlice (P:=P) w hT ⟨g2,0,none⟩ 0 c2 [] (by simp) (fun j u hj=>by simp at hj) (fun u hu=>by cases hu)
 have r1:=run_append_nothing (P:=P) w T T ty e inf hT hi (bb.map fun g=>⟨g,0,none⟩) len cap hcap (az b2 0 0 c2) hs;have r2:(execOp a.eval ⟨some d,.call {callee:= .builtin .append,args:= #[x,y],argTypes:= #[T,T]},ty,pos,af,g⟩).run P w=((Builtin.append_ #[T,T] ty #[az bb 0 len cap,az b2 0 0 c2]).run P w).andThen fun v w=> .ok (.value v) w:=by
  simp[execOp,resolve,invoke,builtin,hx',hy']
 rw[r2];unfold az at r1 ⊢;rw[r1];rfl) h
end
end Go.Via
namespace Go.Via
variable[Mo]
open Go Go.RowKit
def oP(P:Program)(bl:List Nat)(ops:Array Oper)(K:St->Prop):Nat->List Nat->St->Prop
 |0,Ts,s=>Ts=[]∧K s
 |n+1,Ts,s=>BF (fun i=>∃o,ops[i]? =some o∧aU P bl ops [o] s (fun s'=>oP P bl ops K n (Ts.filter (· !=i)) s')) (Ts.filter fun i=> !Ts.any fun j=>waitsF ops ops.size i j)
def BF.mono{Q Q':Nat->Prop}(h:∀i,Q i->Q' i):∀{l:List Nat},BF Q l->BF Q' l
 |[],_=>trivial
 |_::_,hh=>⟨h _ hh.1,BF.mono h hh.2⟩
def oP.kc{P:Program}{bl:List Nat}{ops:Array Oper}{K:St->Prop}(hK:KC K):∀(n:Nat) (Ts:List Nat),KC (oP P bl ops K n Ts)
 |0,Ts=>fun s1 s2 he h=>⟨h.1,hK s1 s2 he h.2⟩
 |n+1,Ts=>fun s1 s2 he h=>BF.mono (fun i ⟨o,h1,h2⟩=>⟨o,h1,aU.kc (oP.kc hK n _) [o] s1 s2 he h2⟩) h
def oP.mono{P:Program}{bl:List Nat}{ops:Array Oper}{K K':St->Prop}(hK:∀s,K s->K' s):∀(n:Nat) (Ts:List Nat) (s:St),oP P bl ops K n Ts s->oP P bl ops K' n Ts s
 |0,Ts,s,h=>⟨h.1,hK s h.2⟩
 |n+1,Ts,s,h=>BF.mono (fun i ⟨o,h1,h2⟩=>⟨o,h1,h2.mono (fun s'=>oP.mono hK n _ s')⟩) h
def aU.append{P:Program}{bl:List Nat}{ops:Array Oper}{K:St->Prop}:∀{l l2:List Oper} {s:St},aU P bl ops l s (fun s'=>aU P bl ops l2 s' K)->aU P bl ops (l++l2) s K
 |[],_,_,h=>h
 |_::l,l2,_,h=>iK.mono (fun _ h1=>aU.append (l:=l) h1) h
structure TE(ops:Array Oper)(l:List Nat):Prop where
 lt:∀i∈l,i<ops.size
 nw:l.Pairwise (fun p i=>jl ops p i=true)
 self:∀i∈l,jl ops i i=true
 ed:∀i∈l,qA ops i=true
 nodup:l.Nodup
def TE.sub{ops:Array Oper}{l l':List Nat}(h:TE ops l)(hs:l'.Sublist l):TE ops l':=
 ⟨fun i hi=>h.lt i (hs.subset hi),h.nw.sublist hs,fun i hi=>h.self i (hs.subset hi),fun i hi=>h.ed i (hs.subset hi),h.nodup.sublist hs⟩
def KQ{P:Program}{bl:List Nat}{ops:Array Oper}{Q:Exit->Act->World->Prop}{K:St->Prop}{B:Bs}(hK:KC K)(hpost:∀s' a' w',K s'->kH B s' a' w'->Q .normal a' w'):
 ∀(n:Nat) (l Ts:List Nat) (listed:Array Bool) (s:St) (a:Act) (w:World),(l++Ts).length=n->TE ops (l++Ts)->l.Pairwise (fun p i=>rM bl ops p i=true)->(∀p∈l,∀i∈Ts,rM bl ops p i=true)->listed.size=ops.size->
  (∀j,j<ops.size->(listed.getD j true=false↔j∈l++Ts))->Oc ops listed->aU P bl ops (l.map fun i=>ops.getD i default) s (oP P bl ops K Ts.length Ts)->kH B s a w->
  wpAny P .any ops Q n listed a w:=by
 intro n
 induction n with
 |zero=>
  intro l Ts listed s a w hn ho hok hokT hsz hl hc hr h;have h0:l++Ts=[]:=List.eq_nil_of_length_eq_zero hn;obtain⟨rfl,rfl⟩:=List.append_eq_nil_iff.1 h0;refine⟨?_,hpost _ _ _ hr.2 h⟩;rcases hh:Region.ready .any ops listed with _|⟨i,r⟩
  ·rfl
  ·exfalso
   obtain⟨h1,o,ho',_⟩:=mem_ready.1 (show i∈Region.ready .any ops listed by rw[hh];simp);have:=(hl i (Array.getElem?_eq_some_iff.1 ho').1).1 h1;simp at this
 |succ n ih=>
  intro l Ts listed s a w hn ho hok hokT hsz hl hc hr h;refine⟨fun h0=>?_,fun i hi=>?_⟩
  ·exfalso
   obtain⟨i0,rest,he⟩:∃i0 rest,l++Ts=i0::rest:=by
    cases hlt:l++Ts with
    |nil=>rw[hlt] at hn;cases hn
    |cons x y=>exact⟨x,y,rfl⟩
   rw[he] at ho hl;have hi0:=ho.lt i0 (by simp);have:i0∈Region.ready .any ops listed:=by
    refine mem_ready.2 ⟨(hl i0 hi0).2 (by simp),ops[i0],Array.getElem?_eq_getElem hi0,fun e hee hb=>?_⟩
    rcases hx:listed.getD e.on false with _|_
    ·exfalso
     have hself:=ho.self i0 (by simp);have hnw:∀j,j∈rest->jl ops i0 j=true:=fun j hj=>(List.pairwise_cons.1 ho.nw).1 j hj
     have key:∀j,jl ops i0 j=true->e.on≠j:=fun j hj e'=>by
      unfold jl at hj;rw[Array.getElem?_eq_getElem hi0] at hj;have:=(Array.all_eq_true'.1 hj) e hee;simp[hb,e'] at this
     rcases Nat.lt_or_ge e.on ops.size with hlt|hge
     ·have hun:listed.getD e.on true=false:=by
       have:e.on<listed.size:=(by rw[hsz];exact hlt);simp[this] at hx ⊢;exact hx
      have:=(hl e.on hlt).1 hun;rcases List.mem_cons.1 this with h1|h1
      ·exact key i0 hself h1
      ·exact key e.on (hnw _ h1) rfl
     ·have hj:=ho.ed i0 (by simp);unfold qA at hj;rw[Array.getElem?_eq_getElem hi0] at hj;have:=(Array.all_eq_true'.1 hj) e hee;simp[hb] at this;omega
    ·rfl
   rw[h0] at this;cases this
  ·obtain⟨hun,oi,hoi,hall⟩:=mem_ready.1 hi;have hilt:=(Array.getElem?_eq_some_iff.1 hoi).1;have hil:i∈l++Ts:=(hl i hilt).1 hun;have hoid:ops.getD i default=oi:=by simp[hoi]
   have hnowait:∀p,p∈l++Ts->waitsF ops ops.size i p=false:=fun p hp=>by
    rcases hw:waitsF ops ops.size i p with _|_
    ·rfl
    ·exfalso
     have h1:=qw hc hw (fun o ho' e he hb=>by rw[hoi] at ho';cases ho';exact hall e he hb);have h2:=(hl p (ho.lt p hp)).2 hp;rw[Oe h2] at h1;cases h1
   have pass:∀p,p∈l++Ts->rM bl ops p i=true->∃op,ops[p]? =some op∧iI op=true∧uU bl oi=true∧jA op=false∧op.apart ops oi=true:=by
    intro p hp hpo;unfold rM at hpo;rw[hnowait p hp,Bool.false_or,hoi] at hpo;cases hop:ops[p]? with
    |none=>rw[hop] at hpo;cases hpo
    |some op=>
     rw[hop] at hpo;simp only[Bool.and_eq_true,Bool.not_eq_true'] at hpo;exact⟨op,rfl,hpo.1.1.1,hpo.1.1.2,hpo.1.2,hpo.2⟩
   have front:∀(pre post:List Nat) (K':St->Prop),KC K'->(∀p∈pre,p∈l++Ts∧rM bl ops p i=true)->aU P bl ops ((pre++i::post).map fun i=>ops.getD i default) s K'->
    iK P bl ops oi s (fun s'=>aU P bl ops ((pre++post).map fun i=>ops.getD i default) s' K'):=by
    intro pre post K' hK' hpre hr1;rw[List.map_append,List.map_cons,hoid] at hr1;rw[List.map_append];cases hpz:pre with
    |nil=>rw[hpz] at hr1;exact hr1
    |cons p0 pre0=>
     obtain⟨hp1,hp2⟩:=hpre p0 (by rw[hpz];simp);obtain⟨op0,_,_,hmi,_,_⟩:=pass p0 hp1 hp2;rw[<-hpz];refine aU.front hK' hmi ?_ hr1;intro q hq;obtain⟨p,hp,rfl⟩:=List.mem_map.1 hq;obtain⟨hp1,hp2⟩:=hpre p hp;obtain⟨op,hop,h1,h2,h3,h4⟩:=pass p hp1 hp2;have:ops.getD p default=op:=by simp[hop]
     rw[this];exact⟨h1,h3,h4⟩
   obtain⟨l',Ts',hsub,hlen,hmem,hsl,hst,hstep⟩:∃l' Ts':List Nat,(l'++Ts').Sublist (l++Ts)∧(l'++Ts').length=n∧(∀j,j∈l'++Ts'↔j∈l++Ts∧j≠i)∧l'.Sublist l∧(∀j∈Ts',j∈Ts)∧
    iK P bl ops oi s (fun s'=>aU P bl ops (l'.map fun i=>ops.getD i default) s' (oP P bl ops K Ts'.length Ts')):=by
    have hnd:=ho.nodup
    by_cases hi1:i∈l
    ·obtain⟨pre,post,rfl⟩:=List.append_of_mem hi1;refine⟨pre++post,Ts,?_,?_,fun j=>?_,List.Sublist.append (List.Sublist.refl _) (List.sublist_cons_self _ _),fun j hj=>hj,?_⟩
     ·exact List.Sublist.append (List.Sublist.append (List.Sublist.refl _) (List.sublist_cons_self _ _)) (List.Sublist.refl _)
     ·simp at hn ⊢;omega
     ·have h1:i∉pre++post++Ts:=by
       intro hm;rw[show pre++i::post++Ts=pre++i::(post++Ts) by simp] at hnd;have h2:=List.nodup_append.1 hnd;rw[List.append_assoc] at hm;rcases List.mem_append.1 hm with h3|h3
       ·exact h2.2.2 i h3 i (by simp) rfl
       ·exact(List.nodup_cons.1 h2.2.1).1 h3
      constructor
      ·intro hj;refine⟨?_,fun e=>h1 (e▸hj)⟩
       simp at hj ⊢;rcases hj with h|h|h<;>simp[h]
      ·rintro⟨hj,hne⟩;simp at hj ⊢;rcases hj with h|h|h|h
       ·simp[h]
       ·exact absurd h hne
       ·simp[h]
       ·simp[h]
     ·exact front pre post _ (oP.kc hK _ _) (fun p hp=>⟨by simp[hp],(List.pairwise_append.1 hok).2.2 p hp i (by simp)⟩) hr
    ·have hi2:i∈Ts:=by
      rcases List.mem_append.1 hil with h1|h1
      ·exact absurd h1 hi1
      ·exact h1
     have hndT:Ts.Nodup:=(List.nodup_append.1 hnd).2.1;obtain⟨pre,post,rfl⟩:=List.append_of_mem hi2;have hnot:i∉pre∧i∉post:=by
      have h2:=List.nodup_append.1 hndT;exact⟨fun h3=>h2.2.2 i h3 i (by simp) rfl,(List.nodup_cons.1 h2.2.1).1⟩
     have hfil:(pre++i::post).filter (· !=i)=pre++post:=by
      rw[List.filter_append,List.filter_cons];simp only[bne_self_eq_false,Bool.false_eq_true,if_false];rw[List.filter_eq_self.2 (fun j hj=>by have:j≠i:=fun e=>hnot.1 (e▸hj);simpa using this),List.filter_eq_self.2 (fun j hj=>by have:j≠i:=fun e=>hnot.2 (e▸hj);simpa using this)]
     refine⟨l,pre++post,?_,?_,fun j=>?_,List.Sublist.refl _,fun j hj=>?_,?_⟩
     ·exact List.Sublist.append (List.Sublist.refl _) (List.Sublist.append (List.Sublist.refl _) (List.sublist_cons_self _ _))
     ·simp at hn ⊢;omega
     ·constructor
      ·intro hj;refine⟨?_,fun e=>?_⟩
       ·simp at hj ⊢;rcases hj with h|h|h<;>simp[h]
       ·subst e;simp at hj;rcases hj with h|h|h
        ·exact hi1 h
        ·exact hnot.1 h
        ·exact hnot.2 h
      ·rintro⟨hj,hne⟩;simp at hj ⊢;rcases hj with h|h|h|h
       ·simp[h]
       ·simp[h]
       ·exact absurd h hne
       ·simp[h]
     ·simp at hj ⊢;rcases hj with h|h<;>simp[h]
     ·have hr2:aU P bl ops ((l++[i]).map fun i=>ops.getD i default) s (oP P bl ops K (pre++post).length (pre++post)):=by
       rw[List.map_append];refine aU.append (hr.mono fun s' hs'=>?_);have hlen:(pre++i::post).length=(pre++post).length+1:=by simp;omega
       rw[hlen] at hs';have hs2:BF _ _:=hs';have hmi:i∈(pre++i::post).filter (fun i'=> !(pre++i::post).any fun j=>waitsF ops ops.size i' j):=by
        refine List.mem_filter.2 ⟨by simp,?_⟩;rw[Bool.not_eq_true',Bool.eq_false_iff];intro h1;obtain⟨j,hj,hw⟩:=List.any_eq_true.1 h1;rw[hnowait j (by simp at hj ⊢;rcases hj with h|h|h<;>simp[h])] at hw;cases hw
       obtain⟨o,ho1,ho2⟩:=hs2.mem i hmi;rw[hoi] at ho1;cases ho1;rw[hfil] at ho2;rw[List.map_singleton,hoid];exact ho2
      have:=front l [] _ (oP.kc hK _ _) (fun p hp=>⟨by simp[hp],hokT p hp i (by simp)⟩) hr2
      simpa using this
   unfold wpOp;rw[hoi];dsimp only;have hS:=iK.sound (K':=wpAny P .any ops Q n (listed.setIfInBounds i true)) (Q:=Q) hstep h (fun s' a' w' hk hrel=>by
 refine ih l' Ts' (listed.setIfInBounds i true) s' a' w' hlen (ho.sub hsub) (hok.sublist hsl) (fun p hp j hj=>hokT p (hsl.subset hp) j (hst j hj)) (by simpa using hsz) ?_ ?_ hk hrel
 ·intro j hj;rw[hmem j]
  by_cases hij:i=j
  ·subst hij;have:i<listed.size:=by rw[hsz];exact hilt
   simp[this]
  ·rw[getD_set_ne true hij,hl j hj];simp[Ne.symm hij]
 ·intro j hj o hoj e he hb
  by_cases hij:i=j
  ·subst hij;rw[hoi] at hoj;cases hoj;exact getD_set_true (hall e he hb)
  ·rw[getD_set_ne false hij] at hj;exact getD_set_true (hc j hj o hoj e he hb))
   split
   ·rename_i hw;rw[if_pos hw] at hS;exact .inl hS
   ·rename_i hw;rw[if_neg hw] at hS;exact hS
def IK(bl:List Nat)(ops:Array Oper)(perm T:List Nat):Bool:=
 decide ((perm++T).length=ops.size)&&(perm++T).all (fun i=>decide (i<ops.size))&&(List.range ops.size).all (fun i=>(perm++T).contains i)&&
 iL (rM bl ops) perm&&perm.all (fun p=>T.all fun i=>rM bl ops p i)&&iL (jl ops) (perm++T)&&(perm++T).all (fun i=>jl ops i i)&&(perm++T).all (fun i=>qA ops i)&&iL (fun i j=>i !=j) (perm++T)
def Xz{P:Program}{bl:List Nat}{id:Nat}{ops:Array Oper}{Q:Exit->Act->World->Prop}{s:St}{B:Bs}{w:World}{a:Act}(perm T:List Nat){l:List Oper}{K:St->Prop}
 (hm:P.follows .mixedOrders=true)(hc:IK bl ops perm T=true)(hl:perm.map (fun i=>ops.getD i default)=l)(hr:aU P bl ops l s (oP P bl ops K T.length T))
 (hpost:∀s' a' w',K s'->kH B s' a' w'->Q .normal a' w')(h:kH B s a w):(Code.region id ops true).wp P Q a w:=by
 simp only[IK,Bool.and_eq_true,decide_eq_true_eq] at hc;obtain⟨⟨⟨⟨⟨⟨⟨⟨hlen,hlt⟩,hall⟩,hpo⟩,hpt⟩,hnw⟩,hself⟩,hed⟩,hnd⟩:=hc;have hOrd:TE ops (perm++T):=⟨fun i hi=>of_decide_eq_true (List.all_eq_true.1 hlt i hi),gY hnw,fun i hi=>List.all_eq_true.1 hself i hi,fun i hi=>List.all_eq_true.1 hed i hi,(gY hnd).imp (fun h=>by simpa using h)⟩
 subst hl;have hK:KC (fun s'=>∃s0,Cm s0 s'∧K s0):=fun s1 s2 he ⟨s0,h0,h1⟩=>⟨s0,h0.trans he,h1⟩
 refine wp_region_any hm ?_;refine KQ hK (fun s' a' w' ⟨s0,he,hk⟩ hrel=>hpost s0 a' w' hk (he.symm.rel hrel)) ops.size perm T _ s a _ hlen hOrd (gY hpo) (fun p hp i hi=>List.all_eq_true.1 (List.all_eq_true.1 hpt p hp) i hi) (by simp) ?_ ?_
  (hr.mono (fun s' hs'=>oP.mono (fun s1 h1=>⟨s1,Cm.refl _,h1⟩) _ _ s' hs')) h.drew
 ·intro j hj;have:j∈perm++T:=by
   have:=List.all_eq_true.1 hall j (List.mem_range.2 hj);exact List.contains_iff_mem.1 this
  simp only[this,iff_true];simp[hj]
 ·intro j hj
  exfalso
  rcases Nat.lt_or_ge j ops.size with h1|h1
  ·simp[h1] at hj
  ·simp[h1] at hj
def pY{P:Program}{B:Bs}{Q:Exit->Act->World->Prop}{s:St}{id:Nat}{l l':List Oper}(bl perm T:List Nat)(hm:P.follows .mixedOrders=true)(hc:IK bl l.toArray perm T=true)(hl:perm.map (fun i=>l.toArray.getD i default)=l')
 (h:aU P bl l.toArray l' s (oP P bl l.toArray (fun s'=>At B s' (Q .normal)) T.length T)):At B s ((Code.region id l.toArray true).wp P Q):=fun a w hr=>
 Xz (K:=fun s'=>At B s' (Q .normal)) perm T hm hc hl h (fun s' a' w' h1 h2=>h1 a' w' h2) hr
def bP{P:Program}{bl:List Nat}{ops:Array Oper}{K:St->Prop}{n:Nat}{Ts:List Nat}{s:St}(l:List Nat)(hl:(Ts.filter fun i=> !Ts.any fun j=>waitsF ops ops.size i j)=l)
 (h:BF (fun i=>∃o,ops[i]? =some o∧aU P bl ops [o] s (fun s'=>oP P bl ops K n (Ts.filter (· !=i)) s')) l):oP P bl ops K (n+1) Ts s:=by
 subst hl;exact h
end Go.Via
namespace Go.Via
def CB{P:Program}{bl:List Nat}{ops:Array Oper}{K:St->Prop}{Ts:List Nat}{s:St}(h:Ts=[])(hk:K s):oP P bl ops K 0 Ts s:=⟨h,hk⟩
end Go.Via
namespace Go.Via
variable[Mo]
open Go Go.RowKit
def Fj(P:Program)(f:Nat)(L:List aC)(args:List Value)(X:Type)(res:X->Value)(new:X->List aC):Prop:=
 iM P f=true∧∀w:World,aV w L w->Calls P f args.toArray w fun e w'=>∃x,e= .returned (res x)∧aV w (new x) w'∧∀b∈new x,∀g,b.base=some g->w.heap.size<=g∨∃b0∈L,b0.base=some g
def Oo{B:Bs}{w:World}{L:List aC}(h:aV B L w)(k:Nat){b:aC}(hk:L[k]? =some b)(ho:b.own=true):∀g,b.base=some g->B.own g:=fun g hg=>((h.blk k b hk).1 g hg).2 ho
def aC.un(b:aC):aC:={b with own:=false}
theorem aV.un{B:Bs}{w:World}{L:List aC}(h:aV B L w):aV B (L.map aC.un) w:=h.mono fun k b' hk=>by
 rw[List.getElem?_map,Option.map_eq_some_iff] at hk;obtain⟨b,h1,rfl⟩:=hk;exact⟨b,h1,⟨rfl,rfl,rfl,⟨b.cs.length,by simp[aC.un]⟩,fun h=>by cases h⟩⟩
def Fj.mono{P:Program}{f:Nat}{L:List aC}{args:List Value}{X Y:Type}{res:X->Value}{new:X->List aC}{res':Y->Value}{new':Y->List aC}(h:Fj P f L args X res new)(m:∀x,∃y,res x=res' y∧new x=new' y):
 Fj P f L args Y res' new':=by
 refine⟨h.1,fun w hL=>(h.2 w hL).mono ?_⟩
 rintro e w' ⟨x,rfl,hx,hf⟩;obtain⟨y,h1,h2⟩:=m x;exact⟨y,by rw[h1],by rw[<-h2];exact hx,by rw[<-h2];exact hf⟩
def aV.joinA{B:Bs}{w w':World}{L L0 new:List aC}(h:aV B L w)(h':aV w new w')(hc:∀b0∈L0,∀g,b0.base=some g->∃(k:Nat) (b:aC),L[k]? =some b∧b.base=some g∧b.own=false)
 (hf:∀b∈new,∀g,b.base=some g->w.heap.size<=g∨∃b0∈L0,b0.base=some g)(hng:∀b∈new,b.base=none->b.e<cZ):aV B (L++new) w':=by
 have hs:=h.same h'.below;refine⟨hs.bel,fun k b hk=>?_,fun i j g bi bj hij hi hj ho hg hgj=>?_,hs.grp.app (h'.grp.base h.bel.le) (fun b hb hn T hT he p hp c hc' ho hg=>?_) (fun b hb hn T hT he=>absurd (he▸hng b hb hn) (Iu T))⟩
 rotate_left 2
 ·have h1:=(h.grp b hb hn T hT he p hp).1.lt;obtain⟨j,hj⟩:=List.mem_iff_getElem?.1 hc';have h2:=DD (((h'.blk j c hj).1 _ hg).2 ho);omega
 ·rw[List.getElem?_append] at hk
  split at hk
  ·exact hs.blk k b hk
  ·obtain⟨a1,a2⟩:=h'.blk _ b hk;exact⟨fun g hg=>⟨(a1 g hg).1,fun ho=>h.bel.le _ ((a1 g hg).2 ho)⟩,a2⟩
 ·rw[List.getElem?_append] at hi hj
  split at hi<;>split at hj
  ·exact hs.apart i j g bi bj hij hi hj ho hg hgj
  ·have h1:=h.lt hi hg;rcases hf bj (List.mem_of_getElem? hj) g hgj with h2|⟨b0,h2,h3⟩
   ·omega
   ·obtain⟨k,b,h4,h5,h6⟩:=hc b0 h2 g h3
    by_cases e:i=k
    ·subst e;rw[hi] at h4;cases h4;rw[ho] at h6;cases h6
    ·exact h.apart i k g bi b e hi h4 ho hg h5
  ·have h1:=h.lt hj hgj;have h2:=DD (((h'.blk _ bi hi).1 g hg).2 ho);omega
  ·exact h'.apart _ _ g bi bj (by omega) hi hj ho hg hgj
def TF(L:List aC)(k:Nat):Bool:=match L[k]? with
 |some b=> !b.own
 |none=>false
def IL{L:List aC}:∀{ks:List Nat} {L0:List aC},jc L (ks.map some) L0->ks.all (TF L)=true->∀b0∈L0,∀g,b0.base=some g->∃(k:Nat) (b:aC),L[k]? =some b∧b.base=some g∧b.own=false
 |[],[],_,_,b0,h,_,_=>by cases h
 |[],_::_,hp,_,_,_,_,_=>hp.elim
 |_::_,[],hp,_,_,_,_,_=>hp.elim
 |k::ks,c::L0,hp,ho,b0,h,g,hg=>by
  rw[List.all_cons,Bool.and_eq_true] at ho;rcases List.mem_cons.1 h with rfl|h
  ·obtain⟨b,h1,h2⟩:=hp.1;have h3:=ho.1;unfold TF at h3;rw[h1] at h3;exact⟨k,b,h1,by rw[<-h2.1];exact hg,by simpa using h3⟩
  ·exact IL hp.2 ho.2 b0 h g hg
section
variable{P:Program}{bl:List Nat}{ops:Array Oper}{K:St->Prop}{rest:List Oper}{nt:Nat}{t:List (Nat×Value)}{L:List aC}{d:Nat}{ty:TypeId}{pos:String}{af:Array Edge}{g:Option (Nat×Bool)}{x y:Operand}
def IP{f:Nat}{args:List Operand}{ts:Array TypeId}(vs:List Value){L0:List aC}{X:Type}{res:X->Value}{new:X->List aC}(ks:List Nat)(hd:Nat.blt d nt=true)(hg:au ops ⟨some d,.call {callee:= .value (.func f),args:=args.toArray,argTypes:=ts},ty,pos,af,g⟩ t=some true)
 (hv:args.map (ev t)=vs.map some)(hc:Fj P f L0 vs X res new)(hp:jc L (ks.map some) L0)(ho:(L0.all fun b=> !b.own)=true)(hn:ks.all (TF L)=true)
 (h:∀x,aU P bl ops rest ⟨nt,(d,res x)::t,L++new x⟩ K)(hA:HY bl=false:=by rfl)
 (hng:∀x,∀b∈new x,b.base=none->b.e<cZ:=by intro x b hb _;(try simp only[List.mem_cons,List.not_mem_nil,or_false] at hb);first|(subst hb;exact Nat.le_of_ble_eq_true rfl)|(rcases hb with rfl|rfl<;>exact Nat.le_of_ble_eq_true rfl)|(rw[List.mem_singleton.1 hb];exact Nat.le_of_ble_eq_true rfl)):
 aU P bl ops (⟨some d,.call {callee:= .value (.func f),args:=args.toArray,argTypes:=ts},ty,pos,af,g⟩::rest) ⟨nt,t,L⟩ K:=
 DR hd hg rfl (X:=X) (res:=res) (new:=new) (qfU (s:=⟨nt,t,L⟩) rfl hv hc.1 fun B w hL=>(hc.2 w (hL.asArgs ks hp (fun b hb=>by simpa using List.all_eq_true.1 ho b hb))).mono (by
 rintro e w' ⟨x,rfl,hx,hf⟩;exact⟨x,rfl,hL.joinA hx (IL hp hn) hf (hng x)⟩)) (fun h1=>by rw[hA] at h1;cases h1) fun x=>h x
end
end Go.Via
