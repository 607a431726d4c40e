/-
  Part 6 (chapter 32): lemmas, walks. Each theorem states its own conditions.
-/
import Derived.Shelf.SlSortCmp.WholeK
import Derived.Shelf.SlSortCmp.NoneTotal
import Derived.Test.YtaffcpfhedadhaaGreatDoorA03
import Derived.Test.YtaffcpfhedadhaaGreatDoorA04
import Derived.Test.YtaffcpfhedadhaaGreatDoorA05
set_option linter.all false
set_option maxRecDepth 20000
set_option maxHeartbeats 20000000
namespace Go.Via
variable[Mo]
open Go Go.RowKit
section
variable{P:Program}{bl:List Nat}{ops:Array Oper}{K:St->Prop}{rest:List Oper}{nt:Nat}{t:List (Nat×Value)}{L:List aF}{d:Nat}{ty:TypeId}{pos:String}{af:Array Edge}{g:Option (Nat×Bool)}{x y:Operand}
def L2{T:Nat}{i:TI}{b:aF}{a0 a1:Value}(k off:Nat)(h:aX P bl ops rest ⟨nt,(d,.agg #[a0,a1])::t,L⟩ K)(hi:dU P T i=true:=by exact uG _)(hd:Nat.blt d nt=true:=by rfl)(hg:ax ops ⟨some d,.load T x,ty,pos,af,g⟩ t=some true:=by rfl)(hk:(blank bl L)[k]? =some b:=by rfl)(hx:ev t x=some (b.at off):=by rfl)(hvs:(b.cs.drop off).take i.size=[a0,a1]:=by rfl)(hlen:Nat.beq i.size 2=true:=by rfl)(ha:i.agg=true:=by rfl):aX P bl ops (⟨some d,.load T x,ty,pos,af,g⟩::rest) ⟨nt,t,L⟩ K:=bn k off [a0,a1] hd hg hk hx hi hvs (Nat.eq_of_beq_eq_true hlen).symm (by rw[Nat.eq_of_beq_eq_true hlen];rfl) (by rw[ha];rfl) h
def L4{T:Nat}{i:TI}{b:aF}{a0 a1 a2 a3:Value}(k off:Nat)(h:aX P bl ops rest ⟨nt,(d,.agg #[a0,a1,a2,a3])::t,L⟩ K)(hi:dU P T i=true:=by exact uG _)(hd:Nat.blt d nt=true:=by rfl)(hg:ax ops ⟨some d,.load T x,ty,pos,af,g⟩ t=some true:=by rfl)(hk:(blank bl L)[k]? =some b:=by rfl)(hx:ev t x=some (b.at off):=by rfl)(hvs:(b.cs.drop off).take i.size=[a0,a1,a2,a3]:=by rfl)(hlen:Nat.beq i.size 4=true:=by rfl)(ha:i.agg=true:=by rfl):aX P bl ops (⟨some d,.load T x,ty,pos,af,g⟩::rest) ⟨nt,t,L⟩ K:=bn k off [a0,a1,a2,a3] hd hg hk hx hi hvs (Nat.eq_of_beq_eq_true hlen).symm (by rw[Nat.eq_of_beq_eq_true hlen];rfl) (by rw[ha];rfl) h
def L8{T:Nat}{i:TI}{b:aF}{a0 a1 a2 a3 a4 a5 a6 a7:Value}(k off:Nat)(h:aX P bl ops rest ⟨nt,(d,.agg #[a0,a1,a2,a3,a4,a5,a6,a7])::t,L⟩ K)(hi:dU P T i=true:=by exact uG _)(hd:Nat.blt d nt=true:=by rfl)(hg:ax ops ⟨some d,.load T x,ty,pos,af,g⟩ t=some true:=by rfl)(hk:(blank bl L)[k]? =some b:=by rfl)(hx:ev t x=some (b.at off):=by rfl)(hvs:(b.cs.drop off).take i.size=[a0,a1,a2,a3,a4,a5,a6,a7]:=by rfl)(hlen:Nat.beq i.size 8=true:=by rfl)(ha:i.agg=true:=by rfl):aX P bl ops (⟨some d,.load T x,ty,pos,af,g⟩::rest) ⟨nt,t,L⟩ K:=bn k off [a0,a1,a2,a3,a4,a5,a6,a7] hd hg hk hx hi hvs (Nat.eq_of_beq_eq_true hlen).symm (by rw[Nat.eq_of_beq_eq_true hlen];rfl) (by rw[ha];rfl) h
def L9{T:Nat}{i:TI}{b:aF}{a0 a1 a2 a3 a4 a5 a6 a7 a8:Value}(k off:Nat)(h:aX P bl ops rest ⟨nt,(d,.agg #[a0,a1,a2,a3,a4,a5,a6,a7,a8])::t,L⟩ K)(hi:dU P T i=true:=by exact uG _)(hd:Nat.blt d nt=true:=by rfl)(hg:ax ops ⟨some d,.load T x,ty,pos,af,g⟩ t=some true:=by rfl)(hk:(blank bl L)[k]? =some b:=by rfl)(hx:ev t x=some (b.at off):=by rfl)(hvs:(b.cs.drop off).take i.size=[a0,a1,a2,a3,a4,a5,a6,a7,a8]:=by rfl)(hlen:Nat.beq i.size 9=true:=by rfl)(ha:i.agg=true:=by rfl):aX P bl ops (⟨some d,.load T x,ty,pos,af,g⟩::rest) ⟨nt,t,L⟩ K:=bn k off [a0,a1,a2,a3,a4,a5,a6,a7,a8] hd hg hk hx hi hvs (Nat.eq_of_beq_eq_true hlen).symm (by rw[Nat.eq_of_beq_eq_true hlen];rfl) (by rw[ha];rfl) h
def VT{T:Nat}{i:TI}{b:aF}{a0 a1 a2 a3 a4 a5 a6 a7 a8 a9:Value}(k off:Nat)(h:aX P bl ops rest ⟨nt,(d,.agg #[a0,a1,a2,a3,a4,a5,a6,a7,a8,a9])::t,L⟩ K)(hi:dU P T i=true:=by exact uG _)(hd:Nat.blt d nt=true:=by rfl)(hg:ax ops ⟨some d,.load T x,ty,pos,af,g⟩ t=some true:=by rfl)(hk:(blank bl L)[k]? =some b:=by rfl)(hx:ev t x=some (b.at off):=by rfl)(hvs:(b.cs.drop off).take i.size=[a0,a1,a2,a3,a4,a5,a6,a7,a8,a9]:=by rfl)(hlen:Nat.beq i.size 10=true:=by rfl)(ha:i.agg=true:=by rfl):aX P bl ops (⟨some d,.load T x,ty,pos,af,g⟩::rest) ⟨nt,t,L⟩ K:=bn k off [a0,a1,a2,a3,a4,a5,a6,a7,a8,a9] hd hg hk hx hi hvs (Nat.eq_of_beq_eq_true hlen).symm (by rw[Nat.eq_of_beq_eq_true hlen];rfl) (by rw[ha];rfl) h
def uD{T:Nat}{i:TI}{b:aF}{a0 a1 a2 a3 a4 a5 a6 a7 a8 a9 a10 a11:Value}(k off:Nat)(h:aX P bl ops rest ⟨nt,(d,.agg #[a0,a1,a2,a3,a4,a5,a6,a7,a8,a9,a10,a11])::t,L⟩ K)(hi:dU P T i=true:=by exact uG _)(hd:Nat.blt d nt=true:=by rfl)(hg:ax ops ⟨some d,.load T x,ty,pos,af,g⟩ t=some true:=by rfl)(hk:(blank bl L)[k]? =some b:=by rfl)(hx:ev t x=some (b.at off):=by rfl)(hvs:(b.cs.drop off).take i.size=[a0,a1,a2,a3,a4,a5,a6,a7,a8,a9,a10,a11]:=by rfl)(hlen:Nat.beq i.size 12=true:=by rfl)(ha:i.agg=true:=by rfl):aX P bl ops (⟨some d,.load T x,ty,pos,af,g⟩::rest) ⟨nt,t,L⟩ K:=bn k off [a0,a1,a2,a3,a4,a5,a6,a7,a8,a9,a10,a11] hd hg hk hx hi hvs (Nat.eq_of_beq_eq_true hlen).symm (by rw[Nat.eq_of_beq_eq_true hlen];rfl) (by rw[ha];rfl) h
def X7{T:Nat}{i:TI}{b:aF}{a0 a1 a2 a3 a4 a5 a6 a7 a8 a9 a10 a11 a12 a13 a14 a15:Value}(k off:Nat)(h:aX P bl ops rest ⟨nt,(d,.agg #[a0,a1,a2,a3,a4,a5,a6,a7,a8,a9,a10,a11,a12,a13,a14,a15])::t,L⟩ K)(hi:dU P T i=true:=by exact uG _)(hd:Nat.blt d nt=true:=by rfl)(hg:ax ops ⟨some d,.load T x,ty,pos,af,g⟩ t=some true:=by rfl)(hk:(blank bl L)[k]? =some b:=by rfl)(hx:ev t x=some (b.at off):=by rfl)(hvs:(b.cs.drop off).take i.size=[a0,a1,a2,a3,a4,a5,a6,a7,a8,a9,a10,a11,a12,a13,a14,a15]:=by rfl)(hlen:Nat.beq i.size 16=true:=by rfl)(ha:i.agg=true:=by rfl):aX P bl ops (⟨some d,.load T x,ty,pos,af,g⟩::rest) ⟨nt,t,L⟩ K:=bn k off [a0,a1,a2,a3,a4,a5,a6,a7,a8,a9,a10,a11,a12,a13,a14,a15] hd hg hk hx hi hvs (Nat.eq_of_beq_eq_true hlen).symm (by rw[Nat.eq_of_beq_eq_true hlen];rfl) (by rw[ha];rfl) h
def xC{T:Nat}{i:TI}{b:aF}{a0 a1 a2 a3 a4 a5 a6 a7 a8 a9 a10 a11 a12 a13 a14 a15 a16 a17 a18 a19:Value}(k off:Nat)(h:aX P bl ops rest ⟨nt,(d,.agg #[a0,a1,a2,a3,a4,a5,a6,a7,a8,a9,a10,a11,a12,a13,a14,a15,a16,a17,a18,a19])::t,L⟩ K)(hi:dU P T i=true:=by exact uG _)(hd:Nat.blt d nt=true:=by rfl)(hg:ax ops ⟨some d,.load T x,ty,pos,af,g⟩ t=some true:=by rfl)(hk:(blank bl L)[k]? =some b:=by rfl)(hx:ev t x=some (b.at off):=by rfl)(hvs:(b.cs.drop off).take i.size=[a0,a1,a2,a3,a4,a5,a6,a7,a8,a9,a10,a11,a12,a13,a14,a15,a16,a17,a18,a19]:=by rfl)(hlen:Nat.beq i.size 20=true:=by rfl)(ha:i.agg=true:=by rfl):aX P bl ops (⟨some d,.load T x,ty,pos,af,g⟩::rest) ⟨nt,t,L⟩ K:=bn k off [a0,a1,a2,a3,a4,a5,a6,a7,a8,a9,a10,a11,a12,a13,a14,a15,a16,a17,a18,a19] hd hg hk hx hi hvs (Nat.eq_of_beq_eq_true hlen).symm (by rw[Nat.eq_of_beq_eq_true hlen];rfl) (by rw[ha];rfl) h
def L36{T:Nat}{i:TI}{b:aF}{a0 a1 a2 a3 a4 a5 a6 a7 a8 a9 a10 a11 a12 a13 a14 a15 a16 a17 a18 a19 a20 a21 a22 a23 a24 a25 a26 a27 a28 a29 a30 a31 a32 a33 a34 a35:Value}(k off:Nat)(h:aX P bl ops rest ⟨nt,(d,.agg #[a0,a1,a2,a3,a4,a5,a6,a7,a8,a9,a10,a11,a12,a13,a14,a15,a16,a17,a18,a19,a20,a21,a22,a23,a24,a25,a26,a27,a28,a29,a30,a31,a32,a33,a34,a35])::t,L⟩ K)(hi:dU P T i=true:=by exact uG _)(hd:Nat.blt d nt=true:=by rfl)(hg:ax ops ⟨some d,.load T x,ty,pos,af,g⟩ t=some true:=by rfl)(hk:(blank bl L)[k]? =some b:=by rfl)(hx:ev t x=some (b.at off):=by rfl)(hvs:(b.cs.drop off).take i.size=[a0,a1,a2,a3,a4,a5,a6,a7,a8,a9,a10,a11,a12,a13,a14,a15,a16,a17,a18,a19,a20,a21,a22,a23,a24,a25,a26,a27,a28,a29,a30,a31,a32,a33,a34,a35]:=by rfl)(hlen:Nat.beq i.size 36=true:=by rfl)(ha:i.agg=true:=by rfl):aX P bl ops (⟨some d,.load T x,ty,pos,af,g⟩::rest) ⟨nt,t,L⟩ K:=bn k off [a0,a1,a2,a3,a4,a5,a6,a7,a8,a9,a10,a11,a12,a13,a14,a15,a16,a17,a18,a19,a20,a21,a22,a23,a24,a25,a26,a27,a28,a29,a30,a31,a32,a33,a34,a35] hd hg hk hx hi hvs (Nat.eq_of_beq_eq_true hlen).symm (by rw[Nat.eq_of_beq_eq_true hlen];rfl) (by rw[ha];rfl) h
def L38{T:Nat}{i:TI}{b:aF}{a0 a1 a2 a3 a4 a5 a6 a7 a8 a9 a10 a11 a12 a13 a14 a15 a16 a17 a18 a19 a20 a21 a22 a23 a24 a25 a26 a27 a28 a29 a30 a31 a32 a33 a34 a35 a36 a37:Value}(k off:Nat)(h:aX P bl ops rest ⟨nt,(d,.agg #[a0,a1,a2,a3,a4,a5,a6,a7,a8,a9,a10,a11,a12,a13,a14,a15,a16,a17,a18,a19,a20,a21,a22,a23,a24,a25,a26,a27,a28,a29,a30,a31,a32,a33,a34,a35,a36,a37])::t,L⟩ K)(hi:dU P T i=true:=by exact uG _)(hd:Nat.blt d nt=true:=by rfl)(hg:ax ops ⟨some d,.load T x,ty,pos,af,g⟩ t=some true:=by rfl)(hk:(blank bl L)[k]? =some b:=by rfl)(hx:ev t x=some (b.at off):=by rfl)(hvs:(b.cs.drop off).take i.size=[a0,a1,a2,a3,a4,a5,a6,a7,a8,a9,a10,a11,a12,a13,a14,a15,a16,a17,a18,a19,a20,a21,a22,a23,a24,a25,a26,a27,a28,a29,a30,a31,a32,a33,a34,a35,a36,a37]:=by rfl)(hlen:Nat.beq i.size 38=true:=by rfl)(ha:i.agg=true:=by rfl):aX P bl ops (⟨some d,.load T x,ty,pos,af,g⟩::rest) ⟨nt,t,L⟩ K:=bn k off [a0,a1,a2,a3,a4,a5,a6,a7,a8,a9,a10,a11,a12,a13,a14,a15,a16,a17,a18,a19,a20,a21,a22,a23,a24,a25,a26,a27,a28,a29,a30,a31,a32,a33,a34,a35,a36,a37] hd hg hk hx hi hvs (Nat.eq_of_beq_eq_true hlen).symm (by rw[Nat.eq_of_beq_eq_true hlen];rfl) (by rw[ha];rfl) h
def Al{T:Nat}{l:List Value}{mk:Nat->List aF}(n:Nat)(hz:(P.info? T).bind (·.zero)=some (.agg l.toArray))(h:∀b,aX P bl ops rest ⟨nt,(d,.pointer (some ⟨b,0,none⟩))::t,mk b⟩ K)(hd:Nat.blt d nt=true:=by rfl)(hg:ax ops ⟨some d,.alloc T,ty,pos,af,g⟩ t=some true:=by rfl)(hn:l.length=n:=by rfl)(hL:∀b,L++[⟨some b,T,l,n,true⟩]=mk b:=by intro b;first|(dsimp only[List.cons_append,List.nil_append];done)|(dsimp only[List.cons_append,List.nil_append];exact rfl)|exact rfl)(hT:Nat.blt T bW=true:=by rfl):aX P bl ops (⟨some d,.alloc T,ty,pos,af,g⟩::rest) ⟨nt,t,L⟩ K:=Vo l n mk hd hg hz rfl hn hL h hT
def Bp{T:Nat}{l:List Value}{mk:Nat->List aF}(n:Nat)(h:∀b,aX P bl ops rest ⟨nt,(d,.pointer (some ⟨b,0,none⟩))::t,mk b⟩ K)(hd:Nat.blt d nt=true:=by rfl)(hg:ax ops ⟨some d,.box T x,ty,pos,af,g⟩ t=some true:=by rfl)(hx:ev t x=some (.agg l.toArray):=by rfl)(hn:l.length=n:=by rfl)(hL:∀b,L++[⟨some b,T,l,n,true⟩]=mk b:=by intro b;first|(dsimp only[List.cons_append,List.nil_append];done)|(dsimp only[List.cons_append,List.nil_append];exact rfl)|exact rfl)(hT:Nat.blt T bW=true:=by rfl):aX P bl ops (⟨some d,.box T x,ty,pos,af,g⟩::rest) ⟨nt,t,L⟩ K:=qfp l n mk hd hg hx rfl hn hL h hT
def Sc{f:Nat}{args:List Operand}{ts:Array TypeId}{vs:List Value}{L0:List aF}{X:Type}[hX:Nonempty X]{res:X->Value}{new:X->List aF}(ks:List Nat)(hd:Nat.blt d nt=true:=by rfl)(hg:ax ops ⟨some d,.call {callee:= .value (.func f),args:=args.toArray,argTypes:=ts},ty,pos,af,g⟩ t=some true:=by rfl)(hv:args.map (ev t)=vs.map some:=by rfl):∀(hc:bZ P f L0 vs X res new) (h:∀x,aX P bl ops rest ⟨nt,(d,res x)::t,L++new x⟩ K) (hp:iJ L (ks.map some) L0:=by repeat (first|exact trivial|refine⟨⟨_,rfl,aF.le_refl _⟩,?_⟩|refine⟨⟨_,rfl,nK⟩,?_⟩)) (ho:(L0.all fun b=> !b.own)=true:=by rfl) (hn:False∨∀x,∀b∈new x,b.own=true:=by first|exact .inr fun x b hb=>by rw[List.mem_singleton.1 hb]|exact .inr fun x b hb=>by rcases List.mem_cons.1 hb with h|h;rw[h];rw[List.mem_singleton.1 h]),aX P bl ops (⟨some d,.call {callee:= .value (.func f),args:=args.toArray,argTypes:=ts},ty,pos,af,g⟩::rest) ⟨nt,t,L⟩ K:=fun hc h hp ho hn=>iP vs ks hd hg hv hc hp ho hn h
def Sd{f:Nat}{args:List Operand}{ts:Array TypeId}{vs:List Value}{L0:List aF}{v:Value}(ks:List Nat)(hd:Nat.blt d nt=true:=by rfl)(hg:ax ops ⟨some d,.call {callee:= .value (.func f),args:=args.toArray,argTypes:=ts},ty,pos,af,g⟩ t=some true:=by rfl)(hv:args.map (ev t)=vs.map some:=by rfl):∀(hc:bZ P f L0 vs Unit (fun _=>v) (fun _=>[])) (h:aX P bl ops rest ⟨nt,(d,v)::t,L⟩ K) (hp:iJ L (ks.map some) L0:=by repeat (first|exact trivial|refine⟨⟨_,rfl,aF.le_refl _⟩,?_⟩|refine⟨⟨_,rfl,nK⟩,?_⟩)) (ho:(L0.all fun b=> !b.own)=true:=by rfl),aX P bl ops (⟨some d,.call {callee:= .value (.func f),args:=args.toArray,argTypes:=ts},ty,pos,af,g⟩::rest) ⟨nt,t,L⟩ K:=fun hc h hp ho=>gq vs ks hd hg hv hc hp ho h
def Dv{op:BinOp}{T U:Nat}{k:IntKind}{m n:Int}(r:Int)(hd:Nat.blt d nt=true:=by rfl)(hg:ax ops ⟨some d,.binOp op T x y U,ty,pos,af,g⟩ t=some true:=by rfl)(hx:ev t x=some (.int k m):=by rfl)(hy:ev t y=some (.int k n):=by rfl):∀(hr:(match op with| .quo=>some (k.wrap (m.tdiv n))| .rem=>some (m.tmod n)|_=>none)=some r) (h:aX P bl ops rest ⟨nt,(d,.int k r)::t,L⟩ K) (hn:n≠0:=by omega),aX P bl ops (⟨some d,.binOp op T x y U,ty,pos,af,g⟩::rest) ⟨nt,t,L⟩ K:=fun hr h hn=>qix hd hg hx hy hn hr h
def Aq{op:BinOp}{T U:Nat}{k:IntKind}{m n:Int}(r:Int)(hd:Nat.blt d nt=true:=by rfl)(hg:ax ops ⟨some d,.binOp op T x y U,ty,pos,af,g⟩ t=some true:=by rfl)(hx:ev t x=some (.int k m):=by rfl)(hy:ev t y=some (.int k n):=by rfl):∀(hr:(match op with| .add=>some (k.wrap (m+n))| .sub=>some (k.wrap (m-n))| .mul=>some (k.wrap (m*n))|_=>none)=some r) (h:aX P bl ops rest ⟨nt,(d,.int k r)::t,L⟩ K),aX P bl ops (⟨some d,.binOp op T x y U,ty,pos,af,g⟩::rest) ⟨nt,t,L⟩ K:=fun hr h=>Vp hd hg hx hy hr h
def Sv{op:BinOp}{T U:Nat}{k k':IntKind}{m n:Int}(r:Int)(hd:Nat.blt d nt=true:=by rfl)(hg:ax ops ⟨some d,.binOp op T x y U,ty,pos,af,g⟩ t=some true:=by rfl)(hx:ev t x=some (.int k m):=by rfl)(hy:ev t y=some (.int k' n):=by rfl):∀(hr:(match op with| .shl=>some (k.wrap (m*2^(min n.toNat k.bits)))| .shr=>some (m.fdiv (2^(min n.toNat k.bits)))|_=>none)=some r) (h:aX P bl ops rest ⟨nt,(d,.int k r)::t,L⟩ K) (hn:¬n<0:=by omega),aX P bl ops (⟨some d,.binOp op T x y U,ty,pos,af,g⟩::rest) ⟨nt,t,L⟩ K:=fun hr h hn=>qcM hd hg hx hy hn hr h
def Cv{S D:Nat}{k k':IntKind}{n:Int}(r:Int)(hS:P.underlying S=some (.int k))(hD:P.underlying D=some (.int k'))(hd:Nat.blt d nt=true:=by rfl)(hg:ax ops ⟨some d,.convert S D x,ty,pos,af,g⟩ t=some true:=by rfl)(hx:ev t x=some (.int k n):=by rfl):∀(hr:k'.wrap n=r) (h:aX P bl ops rest ⟨nt,(d,.int k' r)::t,L⟩ K),aX P bl ops (⟨some d,.convert S D x,ty,pos,af,g⟩::rest) ⟨nt,t,L⟩ K:=fun hr h=>qgd hS hD hd hg hx hr h
def Lo{T:Nat}{b:aF}{v:Value}(k off:Nat)(hi:dU P T ⟨false,1,[]⟩=true:=by exact uG _)(hd:Nat.blt d nt=true:=by rfl)(hg:ax ops ⟨some d,.load T x,ty,pos,af,g⟩ t=some true:=by rfl)(hk:(blank bl L)[k]? =some b:=by rfl)(hx:ev t x=some (b.at off):=by rfl):∀(hv:b.cs[off]? =some v) (h:aX P bl ops rest ⟨nt,(d,v)::t,L⟩ K),aX P bl ops (⟨some d,.load T x,ty,pos,af,g⟩::rest) ⟨nt,t,L⟩ K:=fun hv h=>Oa k off hi hd hg hk hx hv h
def Fg{T:Nat}{j:Nat}{i:TI}{gg:Nat}(off fo:Nat){fs:Nat}{off':Nat}(h:aX P bl ops rest ⟨nt,(d,.pointer (some ⟨gg,off',none⟩))::t,L⟩ K)(hd:Nat.blt d nt=true:=by rfl)(hg:ax ops ⟨some d,.fieldAddr T x j,ty,pos,af,g⟩ t=some true:=by rfl)(hx:ev t x=some (.pointer (some ⟨gg,off,none⟩)):=by rfl)(hi:dU P T i=true:=by exact uG _)(hf:i.flds[j]? =some (fo,fs+1):=by rfl)(ho:off+fo=off':=by rfl):aX P bl ops (⟨some d,.fieldAddr T x j,ty,pos,af,g⟩::rest) ⟨nt,t,L⟩ K:=Oh off fo hd hg hx hi hf ho h
def Bu{T:Nat}{parts:List (Nat×Operand)}(ps:List (Nat×Value)){v:Value}(hd:Nat.blt d nt=true:=by rfl)(hg:ax ops ⟨some d,.build T parts.toArray,ty,pos,af,g⟩ t=some true:=by rfl)(hx:parts.map (fun p=>(p.1,ev t p.2))=ps.map (fun p=>(p.1,some p.2)):=by rfl):∀(hb:∀w,(Instr.build T ps.toArray).run P w= .ok v w) (h:aX P bl ops rest ⟨nt,(d,v)::t,L⟩ K),aX P bl ops (⟨some d,.build T parts.toArray,ty,pos,af,g⟩::rest) ⟨nt,t,L⟩ K:=fun hb h=>qcI ps hd hg hx hb h
def Bl{T n:Nat}{parts:List (Nat×Operand)}(nn:Nat)(ps:List (Nat×Value)){e:Nat}{cs:List Value}{mk:Nat->List aF}(hd:Nat.blt d nt=true:=by rfl)(hg:ax ops ⟨some d,.buildSlice T n parts.toArray,ty,pos,af,g⟩ t=some true:=by rfl)(hx:parts.map (fun p=>(p.1,ev t p.2))=ps.map (fun p=>(p.1,some p.2)):=by rfl):∀(hb:∀w,(Instr.buildSlice T n ps.toArray).run P w= .ok (.slice (some ⟨w.heap.size,0,none⟩) n n) (w.alloc (.cells cs.toArray e))) (h:∀b,aX P bl ops rest ⟨nt,(d,aI (some b) 0 n n)::t,mk b⟩ K) (hnn:cs.length=nn:=by rfl) (hL:∀b,L++[⟨some b,e,cs,nn,true⟩]=mk b:=by intro b;first|(dsimp only[List.cons_append,List.nil_append];done)|(dsimp only[List.cons_append,List.nil_append];exact rfl)|exact rfl) (hem:Nat.blt e bW=true:=by rfl),aX P bl ops (⟨some d,.buildSlice T n parts.toArray,ty,pos,af,g⟩::rest) ⟨nt,t,L⟩ K:=fun hb h hnn hL hem=>Ob ps mk hd hg hx hb hnn hL h hem
def S1{T:Nat}{b:aF}{v:Value}(k off:Nat)(L':List aF)(cs':List Value)(hbl:Fa bl=false:=by rfl)(hi:dU P T ⟨false,1,[]⟩=true:=by exact uG _)(hg:ax ops ⟨none,.store T x y,ty,pos,af,g⟩ t=some true:=by rfl)(hk:L[k]? =some b:=by rfl)(ho:b.own=true:=by rfl)(hbb:b.base.isSome=true:=by rfl)(hx:ev t x=some (b.at off):=by rfl)(hy:ev t y=some v:=by rfl)(hv:v.cells= #[v]:=by rfl)(h1:v.oneCell'=true:=by rfl):∀(hfit:off<b.cs.length) (hcs:b.cs.set off v=cs') (h:aX P bl ops rest ⟨nt,t,L'⟩ K) (hL:L.set k {b with cs:=cs'}=L':=by rfl),aX P bl ops (⟨none,.store T x y,ty,pos,af,g⟩::rest) ⟨nt,t,L⟩ K:=fun hfit hcs h hL=>ZA hbl k off L' cs' hi hg hk ho hbb hx hy hv h1 hfit hcs hL h
def Qa{T e s:Nat}{z:Value}{b:aF}{len cap b2o n2 c2:Nat}{b2:aF}(k k2:Nat)(mk:AR (len+n2) s->List aF)(hT:P.underlying T=some (.slice e))(hi:LK P e s z)(hd:Nat.blt d nt=true:=by rfl)(hg:ax ops ⟨some d,.call {callee:= .builtin .append,args:= #[x,y],argTypes:= #[T,T]},ty,pos,af,g⟩ t=some true:=by rfl)(hk:L[k]? =some b:=by rfl)(ho:b.own=true:=by rfl)(he:b.e=e:=by rfl)(hx:ev t x=some (aI b.base 0 len cap):=by rfl)(hk2:L[k2]? =some b2:=by rfl)(hb2:b2.base=some b2o:=by rfl)(hy:ev t y=some (aI (some b2o) 0 n2 c2):=by rfl)(hs:Nat.blt 0 s=true:=by rfl)(hzs:z.cells.size=s:=by rfl)(hpos:Nat.blt 0 n2=true:=by rfl):∀(hlen:b.cs.length=len*s) (hcap:len<=cap) (hn:cap*s<=b.n) (h1:∀v∈b2.cs,v.oneCell'=true) (h:∀r:AR (len+n2) s,aX P bl ops rest ⟨nt,(d,aI (some r.g) 0 (len+n2) r.cap)::t,mk r⟩ K) (hlen2:b2.cs.length=n2*s:=by rfl) (hmax:len+n2<=17179869184:=by omega) (hL:∀r,L.set k ⟨some r.g,e,b.cs++b2.cs,r.n,true⟩=mk r:=by exact fun _=>rfl),aX P bl ops (⟨some d,.call {callee:= .builtin .append,args:= #[x,y],argTypes:= #[T,T]},ty,pos,af,g⟩::rest) ⟨nt,t,L⟩ K:=fun hlen hcap hn h1 h hlen2 hmax hL=>eG k k2 mk hT hi hd hg hk ho he hx hk2 hb2 hy hs hzs hpos hlen hcap hn hlen2 h1 hmax hL h
def Qo{T e s:Nat}{zz:Value}{b:aF}{len cap off2 n2 c2:Nat}{b2:aF}(k k2:Nat)(news:List Value)(mk:OR (len+n2) s->List aF)(hT:P.underlying T=some (.slice e))(hi:LK P e s zz)(hd:Nat.blt d nt=true:=by rfl)(hg:ax ops ⟨some d,.call {callee:= .builtin .append,args:= #[x,y],argTypes:= #[T,T]},ty,pos,af,g⟩ t=some true:=by rfl)(hk:L[k]? =some b:=by rfl)(ho:b.own=true:=by rfl)(he:b.e=e:=by rfl)(hx:ev t x=some (aI b.base 0 len cap):=by rfl)(hk2:L[k2]? =some b2:=by rfl)(hy:ev t y=some (aI b2.base off2 n2 c2):=by rfl)(hs:Nat.blt 0 s=true:=by rfl)(hzs:zz.cells.size=s:=by rfl):∀(hlen:b.cs.length=len*s) (hcap:len<=cap) (hn:cap*s<=b.n) (hb2:n2=0∨∃g,b2.base=some g) (hnew:(b2.cs.drop off2).take (n2*s)=news) (hlen2:news.length=n2*s) (h1:∀v∈news,v.oneCell'=true) (h:∀r:OR (len+n2) s,aX P bl ops rest ⟨nt,(d,aI r.b 0 (len+n2) r.cap)::t,mk r⟩ K) (hmax:len+n2<=17179869184:=by omega) (hL:∀r,L.set k ⟨r.b,e,b.cs++news,r.n,true⟩=mk r:=by exact fun _=>rfl),aX P bl ops (⟨some d,.call {callee:= .builtin .append,args:= #[x,y],argTypes:= #[T,T]},ty,pos,af,g⟩::rest) ⟨nt,t,L⟩ K:=fun hlen hcap hn hb2 hnew hlen2 h1 h hmax hL=>Fz k k2 news mk hT hi hd hg hk ho he hx hk2 hy hs hzs hlen hcap hn hb2 hnew hlen2 h1 hmax hL h
def Iz{T e N:Nat}{k:IntKind}{i:Int}{gg:Nat}{off:Nat}{inf:TI}(off':Nat)(hT:P.underlying T=some (.array N e))(hinf:dU P e inf=true)(h:aX P bl ops rest ⟨nt,(d,.pointer (some ⟨gg,off',none⟩))::t,L⟩ K)(hd:Nat.blt d nt=true:=by rfl)(hg:ax ops ⟨some d,.indexAddr T x y,ty,pos,af,g⟩ t=some true:=by rfl)(hx:ev t x=some (.pointer (some ⟨gg,off,none⟩)):=by rfl)(hy:ev t y=some (.int k i):=by rfl)(h0:0<=i:=by omega)(h1:i<N:=by omega)(ho:off+i.toNat*inf.size=off':=by first|rfl|(show _+Int.toNat _*1=_;first|rfl|omega)):aX P bl ops (⟨some d,.indexAddr T x y,ty,pos,af,g⟩::rest) ⟨nt,t,L⟩ K:=rZ off' hT hinf hd hg hx hy h0 h1 ho h
def qgH{v:Value}{l cs:List Value}{n:Nat}(hv:v= .agg l.toArray)(h1:Nat.beq l.length n=true)(h2:Nat.beq l.length cs.length=true):cs.take 0++v.cells.toList++cs.drop (0+n)=l:=by have h3:=Nat.eq_of_beq_eq_true h1;have h4:=Nat.eq_of_beq_eq_true h2;subst hv;show[]++l++cs.drop (0+n)=l;rw[<-h3,h4];simp
def qgI{v:Value}{l cs cs':List Value}{off n:Nat}(hv:v= .agg l.toArray)(h:cs.take off++l++cs.drop (off+n)=cs'):cs.take off++v.cells.toList++cs.drop (off+n)=cs':=by subst hv;exact h
def Ss{T:Nat}{i:TI}{gg e n:Nat}{cs cs':List Value}{v:Value}{L':List aF}{off:Nat}(k:Nat)(h:aX P bl ops rest ⟨nt,t,L'⟩ K)(hbl:Fa bl=false:=by rfl)(hg:ax ops ⟨none,.store T x y,ty,pos,af,g⟩ t=some true:=by rfl)(hk:L[k]? =some ⟨some gg,e,cs,n,true⟩:=by rfl)(hx:ev t x=some (.pointer (some ⟨gg,off,none⟩)):=by rfl)(hy:ev t y=some v:=by rfl)(hi:dU P T i=true:=by exact uG _)(hsz:v.cells.size=i.size:=by rfl)(hfit:Nat.ble (off+i.size) cs.length=true:=by rfl)(h1:(v.cells.toList.all fun u=>u.oneCell')=true:=by rfl)(hcs:cs.take off++v.cells.toList++cs.drop (off+i.size)=cs':=by first|exact qgH rfl rfl rfl|exact qgI rfl (by first|(dsimp only[List.take_succ_cons,List.take_zero,List.drop_succ_cons,List.drop_zero,List.cons_append,List.nil_append,List.append_nil,Value.cells];done)|(dsimp only[List.take_succ_cons,List.take_zero,List.drop_succ_cons,List.drop_zero,List.cons_append,List.nil_append,List.append_nil,Value.cells];exact rfl))|(dsimp only[List.take_succ_cons,List.take_zero,List.drop_succ_cons,List.drop_zero,List.cons_append,List.nil_append,List.append_nil,Value.cells];done)|(dsimp only[List.take_succ_cons,List.take_zero,List.drop_succ_cons,List.drop_zero,List.cons_append,List.nil_append,List.append_nil,Value.cells];exact rfl)|exact rfl)(hL:L.set k ⟨some gg,e,cs',n,true⟩=L':=by first|(dsimp only[List.set_cons_zero,List.set_cons_succ];done)|(dsimp only[List.set_cons_zero,List.set_cons_succ];exact rfl)|exact rfl)(hpos:Nat.blt 0 i.size=true:=by rfl):aX P bl ops (⟨none,.store T x y,ty,pos,af,g⟩::rest) ⟨nt,t,L⟩ K:=xH hbl k off L' cs' hg hk hx hy hi hsz hfit h1 hcs hL h hpos
end
section
variable{P:Program}{f:Nat}{fn:Func}{c:Code}{v:Value}{L:List aF}{X:Type}{res:X->Value}{new:X->List aF}
def pB0(nt:Nat)(hf:P.funcs[f]? =some fn)(h:∀w:World,At (Bs.of w) ⟨nt,[],[]⟩ (c.wp P (bodyPost P fn fun e w'=>e= .returned v∧eQ w.heap.size w w')))(hp:iF P f=true:=by kernel_rfl)(hb:fn.body=some c:=by rfl)(hnt:fn.ntmps=nt:=by rfl)(hn:Nat.ble 0 fn.ntmps=true:=by rfl):aH P f #[] v:=⟨hp,fun w=>cB0 nt hf (aT.nil w) (h w) hb hnt hn⟩
def sB0(nt:Nat)(hf:P.funcs[f]? =some fn)(h:∀w:World,aT (Bs.of w) L w->At (Bs.of w) ⟨nt,[],L⟩ (c.wp P (bodyPost P fn fun e w'=>∃x,e= .returned (res x)∧aT (Bs.of w) (new x) w')))(hp:iF P f=true:=by kernel_rfl)(hb:fn.body=some c:=by rfl)(hnt:fn.ntmps=nt:=by rfl)(hn:Nat.ble 0 fn.ntmps=true:=by rfl):bZ P f L [] X res new:=⟨hp,fun w hL0=>cB0 nt hf hL0 (h w hL0) hb hnt hn⟩
def uU{v0:Value}(nt:Nat)(hf:P.funcs[f]? =some fn)(h:∀w:World,At (Bs.of w) ⟨nt,[(0,v0)],[]⟩ (c.wp P (bodyPost P fn fun e w'=>e= .returned v∧eQ w.heap.size w w')))(hp:iF P f=true:=by kernel_rfl)(hb:fn.body=some c:=by rfl)(hnt:fn.ntmps=nt:=by rfl)(hn:Nat.ble 1 fn.ntmps=true:=by rfl):aH P f #[v0] v:=⟨hp,fun w=>cB1 nt hf (aT.nil w) (h w) hb hnt hn⟩
def QF{v0:Value}(nt:Nat)(hf:P.funcs[f]? =some fn)(h:∀w:World,aT (Bs.of w) L w->At (Bs.of w) ⟨nt,[(0,v0)],L⟩ (c.wp P (bodyPost P fn fun e w'=>∃x,e= .returned (res x)∧aT (Bs.of w) (new x) w')))(hp:iF P f=true:=by kernel_rfl)(hb:fn.body=some c:=by rfl)(hnt:fn.ntmps=nt:=by rfl)(hn:Nat.ble 1 fn.ntmps=true:=by rfl):bZ P f L [v0] X res new:=⟨hp,fun w hL0=>cB1 nt hf hL0 (h w hL0) hb hnt hn⟩
def nG{v0 v1:Value}(nt:Nat)(hf:P.funcs[f]? =some fn)(h:∀w:World,At (Bs.of w) ⟨nt,[(0,v0),(1,v1)],[]⟩ (c.wp P (bodyPost P fn fun e w'=>e= .returned v∧eQ w.heap.size w w')))(hp:iF P f=true:=by kernel_rfl)(hb:fn.body=some c:=by rfl)(hnt:fn.ntmps=nt:=by rfl)(hn:Nat.ble 2 fn.ntmps=true:=by rfl):aH P f #[v0,v1] v:=⟨hp,fun w=>cB2 nt hf (aT.nil w) (h w) hb hnt hn⟩
def VU{v0 v1:Value}(nt:Nat)(hf:P.funcs[f]? =some fn)(h:∀w:World,aT (Bs.of w) L w->At (Bs.of w) ⟨nt,[(0,v0),(1,v1)],L⟩ (c.wp P (bodyPost P fn fun e w'=>∃x,e= .returned (res x)∧aT (Bs.of w) (new x) w')))(hp:iF P f=true:=by kernel_rfl)(hb:fn.body=some c:=by rfl)(hnt:fn.ntmps=nt:=by rfl)(hn:Nat.ble 2 fn.ntmps=true:=by rfl):bZ P f L [v0,v1] X res new:=⟨hp,fun w hL0=>cB2 nt hf hL0 (h w hL0) hb hnt hn⟩
def pB3{v0 v1 v2:Value}(nt:Nat)(hf:P.funcs[f]? =some fn)(h:∀w:World,At (Bs.of w) ⟨nt,[(0,v0),(1,v1),(2,v2)],[]⟩ (c.wp P (bodyPost P fn fun e w'=>e= .returned v∧eQ w.heap.size w w')))(hp:iF P f=true:=by kernel_rfl)(hb:fn.body=some c:=by rfl)(hnt:fn.ntmps=nt:=by rfl)(hn:Nat.ble 3 fn.ntmps=true:=by rfl):aH P f #[v0,v1,v2] v:=⟨hp,fun w=>cB3 nt hf (aT.nil w) (h w) hb hnt hn⟩
def sB3{v0 v1 v2:Value}(nt:Nat)(hf:P.funcs[f]? =some fn)(h:∀w:World,aT (Bs.of w) L w->At (Bs.of w) ⟨nt,[(0,v0),(1,v1),(2,v2)],L⟩ (c.wp P (bodyPost P fn fun e w'=>∃x,e= .returned (res x)∧aT (Bs.of w) (new x) w')))(hp:iF P f=true:=by kernel_rfl)(hb:fn.body=some c:=by rfl)(hnt:fn.ntmps=nt:=by rfl)(hn:Nat.ble 3 fn.ntmps=true:=by rfl):bZ P f L [v0,v1,v2] X res new:=⟨hp,fun w hL0=>cB3 nt hf hL0 (h w hL0) hb hnt hn⟩
def pB4{v0 v1 v2 v3:Value}(nt:Nat)(hf:P.funcs[f]? =some fn)(h:∀w:World,At (Bs.of w) ⟨nt,[(0,v0),(1,v1),(2,v2),(3,v3)],[]⟩ (c.wp P (bodyPost P fn fun e w'=>e= .returned v∧eQ w.heap.size w w')))(hp:iF P f=true:=by kernel_rfl)(hb:fn.body=some c:=by rfl)(hnt:fn.ntmps=nt:=by rfl)(hn:Nat.ble 4 fn.ntmps=true:=by rfl):aH P f #[v0,v1,v2,v3] v:=⟨hp,fun w=>cB4 nt hf (aT.nil w) (h w) hb hnt hn⟩
def pB5{v0 v1 v2 v3 v4:Value}(nt:Nat)(hf:P.funcs[f]? =some fn)(h:∀w:World,At (Bs.of w) ⟨nt,[(0,v0),(1,v1),(2,v2),(3,v3),(4,v4)],[]⟩ (c.wp P (bodyPost P fn fun e w'=>e= .returned v∧eQ w.heap.size w w')))(hp:iF P f=true:=by kernel_rfl)(hb:fn.body=some c:=by rfl)(hnt:fn.ntmps=nt:=by rfl)(hn:Nat.ble 5 fn.ntmps=true:=by rfl):aH P f #[v0,v1,v2,v3,v4] v:=⟨hp,fun w=>cB5 nt hf (aT.nil w) (h w) hb hnt hn⟩
end
def pR{L:List aF}{k:Nat}{b:aF}(h:L[k]? =some b:=by rfl):∃b',L[k]? =some b'∧b.le b':=⟨_,h,aF.le_refl _⟩
def pS{L:List aF}{k:Nat}{base:Option Nat}{e:TypeId}{cs:List Value}{n:Nat}{o:Bool}(h:L[k]? =some ⟨base,e,cs,n,o⟩:=by rfl):∃b',L[k]? =some b'∧aF.le ⟨base,e,cs,n,false⟩ b':=⟨_,h,nK⟩
section
variable{P:Program}{B:Bs}{fn:Func}{R:Ending->World->Prop}{s:St}
def E0{w0:World}{d:Nat}{v v':Value}(h:Ending.returned v= .returned v')(hfn:fn.results= #[.tmp d]:=by rfl)(hl:look s.t d=some v:=by rfl):At (Bs.of w0) s (bodyPost P fn (fun e w'=>e= .returned v'∧eQ w0.heap.size w0 w') .ret):=E1 (fun w hL=>⟨h,hL.below⟩) hfn hl
def Ec2{p T:Nat}{b:aF}{i:TI}{a0 a1:Value}(k:Nat)(hR:∀w,aT B s.L w->R (.returned (.agg #[a0,a1])) w)(hfn:fn.results= #[.cell p T]:=by rfl)(hk:s.L[k]? =some b:=by rfl)(hx:look s.t p=some (b.at 0):=by rfl)(hi:dU P T i=true:=by exact uG _)(hvs:b.cs.take i.size=[a0,a1]:=by rfl)(hn:Nat.beq i.size 2=true:=by rfl)(ha:i.agg=true:=by rfl)(hD:B.D=[]:=by first|rfl|assumption):At B s (bodyPost P fn R .ret):=aO hfn (bf k hk hx hi hvs (Nat.eq_of_beq_eq_true hn).symm (by rw[Nat.eq_of_beq_eq_true hn];decide) (by rw[ha];rfl)) hR hD
def PP{p T:Nat}{b:aF}{i:TI}{a0 a1 v':Value}{w0:World}(k:Nat)(h:Ending.returned (.agg #[a0,a1])= .returned v')(hfn:fn.results= #[.cell p T]:=by rfl)(hk:s.L[k]? =some b:=by rfl)(hx:look s.t p=some (b.at 0):=by rfl)(hi:dU P T i=true:=by exact uG _)(hvs:b.cs.take i.size=[a0,a1]:=by rfl)(hn:Nat.beq i.size 2=true:=by rfl)(ha:i.agg=true:=by rfl):At (Bs.of w0) s (bodyPost P fn (fun e w'=>e= .returned v'∧eQ w0.heap.size w0 w') .ret):=Ec2 k (fun w hL=>⟨h,hL.below⟩) hfn hk hx hi hvs hn ha
def Ec4{p T:Nat}{b:aF}{i:TI}{a0 a1 a2 a3:Value}(k:Nat)(hR:∀w,aT B s.L w->R (.returned (.agg #[a0,a1,a2,a3])) w)(hfn:fn.results= #[.cell p T]:=by rfl)(hk:s.L[k]? =some b:=by rfl)(hx:look s.t p=some (b.at 0):=by rfl)(hi:dU P T i=true:=by exact uG _)(hvs:b.cs.take i.size=[a0,a1,a2,a3]:=by rfl)(hn:Nat.beq i.size 4=true:=by rfl)(ha:i.agg=true:=by rfl)(hD:B.D=[]:=by first|rfl|assumption):At B s (bodyPost P fn R .ret):=aO hfn (bf k hk hx hi hvs (Nat.eq_of_beq_eq_true hn).symm (by rw[Nat.eq_of_beq_eq_true hn];decide) (by rw[ha];rfl)) hR hD
def GL{p T:Nat}{b:aF}{i:TI}{a0 a1 a2 a3 v':Value}{w0:World}(k:Nat)(h:Ending.returned (.agg #[a0,a1,a2,a3])= .returned v')(hfn:fn.results= #[.cell p T]:=by rfl)(hk:s.L[k]? =some b:=by rfl)(hx:look s.t p=some (b.at 0):=by rfl)(hi:dU P T i=true:=by exact uG _)(hvs:b.cs.take i.size=[a0,a1,a2,a3]:=by rfl)(hn:Nat.beq i.size 4=true:=by rfl)(ha:i.agg=true:=by rfl):At (Bs.of w0) s (bodyPost P fn (fun e w'=>e= .returned v'∧eQ w0.heap.size w0 w') .ret):=Ec4 k (fun w hL=>⟨h,hL.below⟩) hfn hk hx hi hvs hn ha
def Ec9{p T:Nat}{b:aF}{i:TI}{a0 a1 a2 a3 a4 a5 a6 a7 a8:Value}(k:Nat)(hR:∀w,aT B s.L w->R (.returned (.agg #[a0,a1,a2,a3,a4,a5,a6,a7,a8])) w)(hfn:fn.results= #[.cell p T]:=by rfl)(hk:s.L[k]? =some b:=by rfl)(hx:look s.t p=some (b.at 0):=by rfl)(hi:dU P T i=true:=by exact uG _)(hvs:b.cs.take i.size=[a0,a1,a2,a3,a4,a5,a6,a7,a8]:=by rfl)(hn:Nat.beq i.size 9=true:=by rfl)(ha:i.agg=true:=by rfl)(hD:B.D=[]:=by first|rfl|assumption):At B s (bodyPost P fn R .ret):=aO hfn (bf k hk hx hi hvs (Nat.eq_of_beq_eq_true hn).symm (by rw[Nat.eq_of_beq_eq_true hn];decide) (by rw[ha];rfl)) hR hD
def QG{p T:Nat}{b:aF}{i:TI}{a0 a1 a2 a3 a4 a5 a6 a7 a8 v':Value}{w0:World}(k:Nat)(h:Ending.returned (.agg #[a0,a1,a2,a3,a4,a5,a6,a7,a8])= .returned v')(hfn:fn.results= #[.cell p T]:=by rfl)(hk:s.L[k]? =some b:=by rfl)(hx:look s.t p=some (b.at 0):=by rfl)(hi:dU P T i=true:=by exact uG _)(hvs:b.cs.take i.size=[a0,a1,a2,a3,a4,a5,a6,a7,a8]:=by rfl)(hn:Nat.beq i.size 9=true:=by rfl)(ha:i.agg=true:=by rfl):At (Bs.of w0) s (bodyPost P fn (fun e w'=>e= .returned v'∧eQ w0.heap.size w0 w') .ret):=Ec9 k (fun w hL=>⟨h,hL.below⟩) hfn hk hx hi hvs hn ha
def qkO{p T:Nat}{b:aF}{i:TI}{a0 a1 a2 a3 a4 a5 a6 a7 a8 a9:Value}(k:Nat)(hR:∀w,aT B s.L w->R (.returned (.agg #[a0,a1,a2,a3,a4,a5,a6,a7,a8,a9])) w)(hfn:fn.results= #[.cell p T]:=by rfl)(hk:s.L[k]? =some b:=by rfl)(hx:look s.t p=some (b.at 0):=by rfl)(hi:dU P T i=true:=by exact uG _)(hvs:b.cs.take i.size=[a0,a1,a2,a3,a4,a5,a6,a7,a8,a9]:=by rfl)(hn:Nat.beq i.size 10=true:=by rfl)(ha:i.agg=true:=by rfl)(hD:B.D=[]:=by first|rfl|assumption):At B s (bodyPost P fn R .ret):=aO hfn (bf k hk hx hi hvs (Nat.eq_of_beq_eq_true hn).symm (by rw[Nat.eq_of_beq_eq_true hn];decide) (by rw[ha];rfl)) hR hD
def qiV{p T:Nat}{b:aF}{i:TI}{a0 a1 a2 a3 a4 a5 a6 a7 a8 a9 v':Value}{w0:World}(k:Nat)(h:Ending.returned (.agg #[a0,a1,a2,a3,a4,a5,a6,a7,a8,a9])= .returned v')(hfn:fn.results= #[.cell p T]:=by rfl)(hk:s.L[k]? =some b:=by rfl)(hx:look s.t p=some (b.at 0):=by rfl)(hi:dU P T i=true:=by exact uG _)(hvs:b.cs.take i.size=[a0,a1,a2,a3,a4,a5,a6,a7,a8,a9]:=by rfl)(hn:Nat.beq i.size 10=true:=by rfl)(ha:i.agg=true:=by rfl):At (Bs.of w0) s (bodyPost P fn (fun e w'=>e= .returned v'∧eQ w0.heap.size w0 w') .ret):=qkO k (fun w hL=>⟨h,hL.below⟩) hfn hk hx hi hvs hn ha
def qkP{p T:Nat}{b:aF}{i:TI}{a0 a1 a2 a3 a4 a5 a6 a7 a8 a9 a10 a11:Value}(k:Nat)(hR:∀w,aT B s.L w->R (.returned (.agg #[a0,a1,a2,a3,a4,a5,a6,a7,a8,a9,a10,a11])) w)(hfn:fn.results= #[.cell p T]:=by rfl)(hk:s.L[k]? =some b:=by rfl)(hx:look s.t p=some (b.at 0):=by rfl)(hi:dU P T i=true:=by exact uG _)(hvs:b.cs.take i.size=[a0,a1,a2,a3,a4,a5,a6,a7,a8,a9,a10,a11]:=by rfl)(hn:Nat.beq i.size 12=true:=by rfl)(ha:i.agg=true:=by rfl)(hD:B.D=[]:=by first|rfl|assumption):At B s (bodyPost P fn R .ret):=aO hfn (bf k hk hx hi hvs (Nat.eq_of_beq_eq_true hn).symm (by rw[Nat.eq_of_beq_eq_true hn];decide) (by rw[ha];rfl)) hR hD
def Jz{p T:Nat}{b:aF}{i:TI}{a0 a1 a2 a3 a4 a5 a6 a7 a8 a9 a10 a11 v':Value}{w0:World}(k:Nat)(h:Ending.returned (.agg #[a0,a1,a2,a3,a4,a5,a6,a7,a8,a9,a10,a11])= .returned v')(hfn:fn.results= #[.cell p T]:=by rfl)(hk:s.L[k]? =some b:=by rfl)(hx:look s.t p=some (b.at 0):=by rfl)(hi:dU P T i=true:=by exact uG _)(hvs:b.cs.take i.size=[a0,a1,a2,a3,a4,a5,a6,a7,a8,a9,a10,a11]:=by rfl)(hn:Nat.beq i.size 12=true:=by rfl)(ha:i.agg=true:=by rfl):At (Bs.of w0) s (bodyPost P fn (fun e w'=>e= .returned v'∧eQ w0.heap.size w0 w') .ret):=qkP k (fun w hL=>⟨h,hL.below⟩) hfn hk hx hi hvs hn ha
def qkQ{p T:Nat}{b:aF}{i:TI}{a0 a1 a2 a3 a4 a5 a6 a7 a8 a9 a10 a11 a12 a13 a14 a15:Value}(k:Nat)(hR:∀w,aT B s.L w->R (.returned (.agg #[a0,a1,a2,a3,a4,a5,a6,a7,a8,a9,a10,a11,a12,a13,a14,a15])) w)(hfn:fn.results= #[.cell p T]:=by rfl)(hk:s.L[k]? =some b:=by rfl)(hx:look s.t p=some (b.at 0):=by rfl)(hi:dU P T i=true:=by exact uG _)(hvs:b.cs.take i.size=[a0,a1,a2,a3,a4,a5,a6,a7,a8,a9,a10,a11,a12,a13,a14,a15]:=by rfl)(hn:Nat.beq i.size 16=true:=by rfl)(ha:i.agg=true:=by rfl)(hD:B.D=[]:=by first|rfl|assumption):At B s (bodyPost P fn R .ret):=aO hfn (bf k hk hx hi hvs (Nat.eq_of_beq_eq_true hn).symm (by rw[Nat.eq_of_beq_eq_true hn];decide) (by rw[ha];rfl)) hR hD
def qgJ{p T:Nat}{b:aF}{i:TI}{a0 a1 a2 a3 a4 a5 a6 a7 a8 a9 a10 a11 a12 a13 a14 a15 v':Value}{w0:World}(k:Nat)(h:Ending.returned (.agg #[a0,a1,a2,a3,a4,a5,a6,a7,a8,a9,a10,a11,a12,a13,a14,a15])= .returned v')(hfn:fn.results= #[.cell p T]:=by rfl)(hk:s.L[k]? =some b:=by rfl)(hx:look s.t p=some (b.at 0):=by rfl)(hi:dU P T i=true:=by exact uG _)(hvs:b.cs.take i.size=[a0,a1,a2,a3,a4,a5,a6,a7,a8,a9,a10,a11,a12,a13,a14,a15]:=by rfl)(hn:Nat.beq i.size 16=true:=by rfl)(ha:i.agg=true:=by rfl):At (Bs.of w0) s (bodyPost P fn (fun e w'=>e= .returned v'∧eQ w0.heap.size w0 w') .ret):=qkQ k (fun w hL=>⟨h,hL.below⟩) hfn hk hx hi hvs hn ha
def qkR{p T:Nat}{b:aF}{i:TI}{a0 a1 a2 a3 a4 a5 a6 a7 a8 a9 a10 a11 a12 a13 a14 a15 a16 a17 a18 a19:Value}(k:Nat)(hR:∀w,aT B s.L w->R (.returned (.agg #[a0,a1,a2,a3,a4,a5,a6,a7,a8,a9,a10,a11,a12,a13,a14,a15,a16,a17,a18,a19])) w)(hfn:fn.results= #[.cell p T]:=by rfl)(hk:s.L[k]? =some b:=by rfl)(hx:look s.t p=some (b.at 0):=by rfl)(hi:dU P T i=true:=by exact uG _)(hvs:b.cs.take i.size=[a0,a1,a2,a3,a4,a5,a6,a7,a8,a9,a10,a11,a12,a13,a14,a15,a16,a17,a18,a19]:=by rfl)(hn:Nat.beq i.size 20=true:=by rfl)(ha:i.agg=true:=by rfl)(hD:B.D=[]:=by first|rfl|assumption):At B s (bodyPost P fn R .ret):=aO hfn (bf k hk hx hi hvs (Nat.eq_of_beq_eq_true hn).symm (by rw[Nat.eq_of_beq_eq_true hn];decide) (by rw[ha];rfl)) hR hD
def qkS{p T:Nat}{b:aF}{i:TI}{a0 a1 a2 a3 a4 a5 a6 a7 a8 a9 a10 a11 a12 a13 a14 a15 a16 a17 a18 a19 v':Value}{w0:World}(k:Nat)(h:Ending.returned (.agg #[a0,a1,a2,a3,a4,a5,a6,a7,a8,a9,a10,a11,a12,a13,a14,a15,a16,a17,a18,a19])= .returned v')(hfn:fn.results= #[.cell p T]:=by rfl)(hk:s.L[k]? =some b:=by rfl)(hx:look s.t p=some (b.at 0):=by rfl)(hi:dU P T i=true:=by exact uG _)(hvs:b.cs.take i.size=[a0,a1,a2,a3,a4,a5,a6,a7,a8,a9,a10,a11,a12,a13,a14,a15,a16,a17,a18,a19]:=by rfl)(hn:Nat.beq i.size 20=true:=by rfl)(ha:i.agg=true:=by rfl):At (Bs.of w0) s (bodyPost P fn (fun e w'=>e= .returned v'∧eQ w0.heap.size w0 w') .ret):=qkR k (fun w hL=>⟨h,hL.below⟩) hfn hk hx hi hvs hn ha
def qkT{p T:Nat}{b:aF}{i:TI}{a0 a1 a2 a3 a4 a5 a6 a7 a8 a9 a10 a11 a12 a13 a14 a15 a16 a17 a18 a19 a20 a21 a22 a23 a24 a25 a26 a27 a28 a29 a30 a31 a32 a33 a34 a35 a36 a37:Value}(k:Nat)(hR:∀w,aT B s.L w->R (.returned (.agg #[a0,a1,a2,a3,a4,a5,a6,a7,a8,a9,a10,a11,a12,a13,a14,a15,a16,a17,a18,a19,a20,a21,a22,a23,a24,a25,a26,a27,a28,a29,a30,a31,a32,a33,a34,a35,a36,a37])) w)(hfn:fn.results= #[.cell p T]:=by rfl)(hk:s.L[k]? =some b:=by rfl)(hx:look s.t p=some (b.at 0):=by rfl)(hi:dU P T i=true:=by exact uG _)(hvs:b.cs.take i.size=[a0,a1,a2,a3,a4,a5,a6,a7,a8,a9,a10,a11,a12,a13,a14,a15,a16,a17,a18,a19,a20,a21,a22,a23,a24,a25,a26,a27,a28,a29,a30,a31,a32,a33,a34,a35,a36,a37]:=by rfl)(hn:Nat.beq i.size 38=true:=by rfl)(ha:i.agg=true:=by rfl)(hD:B.D=[]:=by first|rfl|assumption):At B s (bodyPost P fn R .ret):=aO hfn (bf k hk hx hi hvs (Nat.eq_of_beq_eq_true hn).symm (by rw[Nat.eq_of_beq_eq_true hn];decide) (by rw[ha];rfl)) hR hD
def qkU{p T:Nat}{b:aF}{i:TI}{a0 a1 a2 a3 a4 a5 a6 a7 a8 a9 a10 a11 a12 a13 a14 a15 a16 a17 a18 a19 a20 a21 a22 a23 a24 a25 a26 a27 a28 a29 a30 a31 a32 a33 a34 a35 a36 a37 v':Value}{w0:World}(k:Nat)(h:Ending.returned (.agg #[a0,a1,a2,a3,a4,a5,a6,a7,a8,a9,a10,a11,a12,a13,a14,a15,a16,a17,a18,a19,a20,a21,a22,a23,a24,a25,a26,a27,a28,a29,a30,a31,a32,a33,a34,a35,a36,a37])= .returned v')(hfn:fn.results= #[.cell p T]:=by rfl)(hk:s.L[k]? =some b:=by rfl)(hx:look s.t p=some (b.at 0):=by rfl)(hi:dU P T i=true:=by exact uG _)(hvs:b.cs.take i.size=[a0,a1,a2,a3,a4,a5,a6,a7,a8,a9,a10,a11,a12,a13,a14,a15,a16,a17,a18,a19,a20,a21,a22,a23,a24,a25,a26,a27,a28,a29,a30,a31,a32,a33,a34,a35,a36,a37]:=by rfl)(hn:Nat.beq i.size 38=true:=by rfl)(ha:i.agg=true:=by rfl):At (Bs.of w0) s (bodyPost P fn (fun e w'=>e= .returned v'∧eQ w0.heap.size w0 w') .ret):=qkT k (fun w hL=>⟨h,hL.below⟩) hfn hk hx hi hvs hn ha
end
def Ni{B:Bs}{nt:Nat}{t:List (Nat×Value)}{L:List aF}{X:Type}{T:X->List (Nat×Value)}{LL:X->List aF}(z:X)(ks:List Nat)(lk:jE t (T z):=by repeat (first|exact trivial|refine⟨rfl,?_⟩))(hp:iJ L (ks.map some) (LL z):=by repeat (first|exact trivial|refine⟨⟨_,rfl,aF.le_refl _⟩,?_⟩))(hl:(ks.map some).length=(LL z).length:=by rfl)(ha:kK (ks.map some) ((LL z).map (·.own))=true:=by rfl):At B ⟨nt,t,L⟩ (fun a w=>∃z,kD B ⟨nt,T z,LL z⟩ a w):=Jw z lk (aj _ hp hl ha)
def tJ:List Oper->Nat->Oper
 |[],_=>default
 |x::_,0=>x
 |_::l,n+1=>tJ l n
theorem JA:∀(l:List Oper) (i:Nat),tJ l i=l.toArray.getD i default
 |[],i=>by simp[tJ]
 |x::l,0=>by simp[tJ]
 |x::l,n+1=>by have:=JA l n;simp[tJ] at this ⊢;exact this
def MJ{l l':List Oper}{perm:List Nat}(h:perm.map (tJ l)=l'):perm.map (fun i=>l.toArray.getD i default)=l':=by rw[<-h];exact List.map_congr_left fun i _=>(JA l i).symm
section
variable{P:Program}{B:Bs}{s:St}{Q:Exit->Act->World->Prop}{id:Nat}{l l':List Oper}
def Dp(bl perm:List Nat)(h:aX P bl l.toArray l' s (fun s'=>At B s' (Q .normal)))(hm:P.follows .mixedOrders=true:=by exact mixed)(hc:uH bl l.toArray perm=true:=by kernel_rfl)(hl:perm.map (tJ l)=l':=by first|(dsimp only[List.map,tJ];done)|(dsimp only[List.map,tJ];exact rfl))(hf:IZ bl l.toArray s=true:=by kernel_rfl):At B s ((Code.region id l.toArray true).wp P Q):=P5 bl perm hm hc (MJ hl) hf h
def Dq(bl perm:List Nat)(h:aX P bl l.toArray l' s (fun s'=>At B s' (Q .normal)))(hm:P.follows .mixedOrders=true:=by exact mixed)(hc:yY bl l.toArray perm=true:=by kernel_rfl)(hl:perm.map (tJ l)=l':=by first|(dsimp only[List.map,tJ];done)|(dsimp only[List.map,tJ];exact rfl)):At B s ((Code.region id l.toArray true).wp P Q):=Fv bl perm hm hc (MJ hl) h
def Di(bl:List Nat)(h:aX P bl l.toArray l s (fun s'=>At B s' (Q .normal)))(hm:P.follows .mixedOrders=true:=by exact mixed)(hc:uH bl l.toArray (List.range l.length)=true:=by kernel_rfl)(hf:IZ bl l.toArray s=true:=by kernel_rfl):At B s ((Code.region id l.toArray true).wp P Q):=XD bl hm hc hf h
end
section
variable{P:Program}{ops:Array Oper}{X:Act->World->Prop}{B:Bs}{n:Nat}{R:List Nat}
def Nt{nt:Nat}{t:List (Nat×Value)}{L:List aF}{l l':List Oper}(i:Nat)(h:aX P [] l.toArray l' ⟨nt,t,[]⟩ (fun s'=>vO P l.toArray X B n (R.filter (· !=i)) ⟨nt,s'.t,L⟩))(hc:(Region.noSelect l.toArray&&Ap l.toArray (zA l.toArray.size R) [i])=true:=by kernel_rfl)(hl:[tJ l i]=l':=by first|(dsimp only[tJ];done)|(dsimp only[tJ];exact rfl)):vO P l.toArray X B (n+1) R ⟨nt,t,L⟩:=qdA i hc (by rw[<-hl,JA]) h
def Nd1{s:St}{o:Oper}(i:Nat)(h:aX P [1000000] ops [o] s (fun s'=>vO P ops X B n (R.filter (· !=i)) s'))(h1:Region.ready .any ops (zA ops.size R)=[i]:=by kernel_rfl)(ho:ops[i]? =some o:=by rfl):vO P ops X B (n+1) R s:=jF [i] h1 rfl ⟨⟨_,ho,h⟩,trivial⟩
def Nw{nt:Nat}{t:List (Nat×Value)}{L:List aF}{Z:Type}{T:Z->List (Nat×Value)}{LL:Z->List aF}(h:∀z,vO P ops X B n R ⟨nt,T z,LL z⟩)(z:Z)(ks:List Nat)(lk:jE t (T z):=by repeat (first|exact trivial|refine⟨rfl,?_⟩))(hp:iJ L (ks.map some) (LL z):=by repeat (first|exact trivial|refine⟨⟨_,rfl,aF.le_refl _⟩,?_⟩))(hl:(ks.map some).length=(LL z).length:=by rfl)(ha:kK (ks.map some) ((LL z).map (·.own))=true:=by rfl):vO P ops X B n R ⟨nt,t,L⟩:=qdB h z lk (aj _ hp hl ha)
end
end Go.Via
namespace Go.Proofs.YtaffcpfhedadhaaGreatDoor
open Go Go.RowKit Go.Via
def tiL:List (Nat×TI):=((3,⟨false,1,[]⟩)::(4,⟨false,1,[]⟩)::(5,⟨false,1,[]⟩)::(9,⟨false,1,[]⟩)::(22,⟨false,1,[]⟩)::(24,⟨true,4,[(0,1),(1,1),(2,1),(3,1)]⟩)::(26,⟨true,9,[(0,4),(4,4),(8,1)]⟩)::(32,⟨false,1,[]⟩)::(34,⟨true,2,[(0,1),(1,1)]⟩)::(36,⟨true,4,[(0,2),(2,2)]⟩)::(38,⟨true,9,[(0,4),(4,4),(8,1)]⟩)::(40,⟨true,10,[(0,1),(1,9)]⟩)::(48,⟨true,5,[(0,1),(1,1),(2,1),(3,1),(4,1)]⟩)::(55,⟨true,4,[(0,1),(1,1),(2,1),(3,1)]⟩)::(57,⟨true,6,[(0,1),(1,1),(2,4)]⟩)::(61,⟨true,20,[(0,9),(9,9),(18,1),(19,1)]⟩)::(63,⟨true,38,[(0,20),(20,9),(29,9)]⟩)::(74,⟨false,1,[]⟩)::(86,⟨true,4,[(0,1),(1,1),(2,1),(3,1)]⟩)::(91,⟨true,12,[(0,4),(4,4),(8,4)]⟩)::(93,⟨true,32,[(0,20),(20,12)]⟩)::(98,⟨true,16,[(0,4),(4,4),(8,4),(12,4)]⟩)::(100,⟨true,36,[(0,20),(20,16)]⟩)::(118,⟨false,1,[]⟩)::(120,⟨true,3,[(0,1),(1,1),(2,1)]⟩)::(130,⟨true,3,[]⟩)::(135,⟨true,8,[(0,4),(4,4)]⟩)::(137,⟨true,12,[(0,4),(4,8)]⟩)::(148,⟨false,1,[]⟩)::(151,⟨true,52,[(0,20),(20,16),(36,16)]⟩)::(174,⟨true,12,[]⟩)::(181,⟨true,21,[(0,20),(20,1)]⟩)::(184,⟨true,21,[(0,20),(20,1)]⟩)::(197,⟨true,0,[]⟩)::(201,⟨true,36,[(0,20),(20,16)]⟩)::(209,⟨true,10,[(0,9),(9,1)]⟩)::(221,⟨false,1,[]⟩)::(251,⟨true,2,[]⟩)::(253,⟨true,12,[(0,10),(10,2)]⟩)::(272,⟨false,1,[]⟩)::(286,⟨true,8,[]⟩)::(306,⟨false,1,[]⟩)::(308,⟨true,2,[(0,1),(1,1)]⟩)::(317,⟨true,256,[]⟩)::(328,⟨false,1,[]⟩)::(352,⟨true,2,[(0,1),(1,1)]⟩)::(353,⟨true,32,[]⟩)::[])
def qiW(T:Nat):TI:=(tiL.lookup T).getD ⟨false,0,[]⟩
def tiK:tiL.all (fun p=>dU Tryz.prog p.1 p.2)=true:=by kernel_rfl
def JB{α:Type}:∀{l:List (Nat×α)} {k:Nat} {v:α},l.lookup k=some v->(k,v)∈l
 |(a,b)::l,k,v,h=>by
  rw[List.lookup_cons] at h
  split at h
  ·rename_i e;cases h;rw[eq_of_beq e];exact List.mem_cons_self
  ·exact List.mem_cons_of_mem _ (JB h)
def qiX{α:Type}{p:Nat->α->Bool}{l:List (Nat×α)}{k:Nat}{v:α}(h:l.all (fun x=>p x.1 x.2)=true)(hv:l.lookup k=some v):p k v=true:=List.all_eq_true.1 h _ (JB hv)
def slB(o:Option TypeDesc)(e:Nat):Bool:=match o with
 |some (.slice e')=>e'==e
 |_=>false
def qgK{o:Option TypeDesc}{e:Nat}(h:slB o e=true):o=some (.slice e):=by
 unfold slB at h
 split at h
 ·rw[eq_of_beq h]
 ·cases h
def stB(o:Option TypeDesc):Bool:=match o with
 |some .string=>true
 |_=>false
def qgL{o:Option TypeDesc}(h:stB o=true):o=some .string:=by
 unfold stB at h
 split at h
 ·rfl
 ·cases h
def uG(T:Nat)(h:(tiL.lookup T).isSome=true:=by rfl):dU Tryz.prog T (qiW T)=true:=by
 obtain⟨v,hv⟩:=Option.isSome_iff_exists.1 h;unfold qiW;rw[hv,Option.getD_some];exact qiX (p:=fun a b=>dU Tryz.prog a b) tiK hv
def elL:List (Nat×Nat):=((22,86)::(29,100)::(32,63)::(74,61)::(88,93)::(118,3)::(146,151)::(148,201)::(153,38)::(177,181)::(182,184)::(186,32)::(221,5)::(249,253)::(250,74)::(270,272)::[])
def qiY(T:Nat):Nat:=(elL.lookup T).getD 0
def elK:elL.all (fun p=>slB (Tryz.prog.underlying p.1) p.2)=true:=by kernel_rfl
def uA(T:Nat)(h:(elL.lookup T).isSome=true:=by rfl):Tryz.prog.underlying T=some (.slice (qiY T)):=by
 obtain⟨v,hv⟩:=Option.isSome_iff_exists.1 h;unfold qiY;rw[hv];have:=qiX (p:=fun a b=>slB (Tryz.prog.underlying a) b) elK hv
 rw[Option.getD_some];exact qgK this
def stL:List Nat:=(9::[])
def stK:stL.all (fun T=>stB (Tryz.prog.underlying T))=true:=by kernel_rfl
def uT(T:Nat)(h:stL.contains T=true:=by rfl):Tryz.prog.underlying T=some .string:=by
 exact qgL (List.all_eq_true.1 stK T (List.contains_iff_mem.1 h))
end Go.Proofs.YtaffcpfhedadhaaGreatDoor
namespace Go.Proofs
open Go.Shelf
def Tryz.sortEv_ren:Go.Shelf.Ren:=⟨fun|6=>192|14=>222|15=>223|20=>239|21=>240|22=>241|23=>242|24=>243|25=>244|26=>245|27=>246|28=>247|29=>226|46=>266|47=>267|48=>268|49=>269|50=>270|57=>284|n=>n,fun|0=>0|3=>3|4=>4|5=>5|9=>9|22=>249|24=>253|25=>255|39=>236|53=>272|55=>189|76=>343|66=>328|45=>297|46=>298|50=>139|77=>344|70=>332|n=>n,fun n=>n⟩
def Tryz.sortEv:SlLaysF0.n6 Tryz.prog Tryz.sortEv_ren where
 mixed:=by kernel_rfl
 f6:=⟨"slices.SortFunc[[]viator/period.event,viator/period.event]",by decide,Tryz.func192.trans (congrArg some (by kernel_rfl))⟩
 f14:=⟨"slices.pdqsortCmpFunc[viator/period.event]",by decide,Tryz.func222.trans (congrArg some (by kernel_rfl))⟩
 f15:=Tryz.func223.trans (congrArg some (by kernel_rfl))
 f20:=⟨"slices.insertionSortCmpFunc[viator/period.event]",by decide,Tryz.func239.trans (congrArg some (by kernel_rfl))⟩
 f21:=⟨"slices.heapSortCmpFunc[viator/period.event]",by decide,Tryz.func240.trans (congrArg some (by kernel_rfl))⟩
 f22:=⟨"slices.breakPatternsCmpFunc[viator/period.event]",by decide,Tryz.func241.trans (congrArg some (by kernel_rfl))⟩
 f23:=⟨"slices.choosePivotCmpFunc[viator/period.event]",by decide,Tryz.func242.trans (congrArg some (by kernel_rfl))⟩
 f24:=⟨"slices.reverseRangeCmpFunc[viator/period.event]",by decide,Tryz.func243.trans (congrArg some (by kernel_rfl))⟩
 f25:=⟨"slices.partialInsertionSortCmpFunc[viator/period.event]",by decide,Tryz.func244.trans (congrArg some (by kernel_rfl))⟩
 f26:=⟨"slices.partitionEqualCmpFunc[viator/period.event]",by decide,Tryz.func245.trans (congrArg some (by kernel_rfl))⟩
 f27:=⟨"slices.partitionCmpFunc[viator/period.event]",by decide,Tryz.func246.trans (congrArg some (by kernel_rfl))⟩
 f28:=Tryz.func247.trans (congrArg some (by kernel_rfl))
 f29:=Tryz.func226.trans (congrArg some (by kernel_rfl))
 f46:=⟨"slices.siftDownCmpFunc[viator/period.event]",by decide,Tryz.func266.trans (congrArg some (by kernel_rfl))⟩
 f47:=Tryz.func267.trans (congrArg some (by kernel_rfl))
 f48:=Tryz.func268.trans (congrArg some (by kernel_rfl))
 f49:=⟨"slices.medianAdjacentCmpFunc[viator/period.event]",by decide,Tryz.func269.trans (congrArg some (by kernel_rfl))⟩
 f50:=⟨"slices.medianCmpFunc[viator/period.event]",by decide,Tryz.func270.trans (congrArg some (by kernel_rfl))⟩
 f57:=⟨"slices.order2CmpFunc[viator/period.event]",by decide,Tryz.func284.trans (congrArg some (by kernel_rfl))⟩
 t0:=Tryz.underlying0
 a0:=Tryz.isAgg0
 z0:=Tryz.sizeOf0
 v0:=Tryz.zeroValue0
 t3:=Tryz.underlying3
 a3:=Tryz.isAgg3
 z3:=Tryz.sizeOf3
 v3:=Tryz.zeroValue3
 t4:=Tryz.underlying4
 a4:=Tryz.isAgg4
 z4:=Tryz.sizeOf4
 v4:=Tryz.zeroValue4
 t5:=Tryz.underlying5
 a5:=Tryz.isAgg5
 z5:=Tryz.sizeOf5
 v5:=Tryz.zeroValue5
 t9:=Tryz.underlying9
 a9:=Tryz.isAgg9
 z9:=Tryz.sizeOf9
 v9:=Tryz.zeroValue9
 t22:=Tryz.underlying249
 a22:=Tryz.isAgg249
 z22:=Tryz.sizeOf249
 v22:=Tryz.zeroValue249
 t25:=Tryz.underlying255
 a25:=Tryz.isAgg255
 z25:=Tryz.sizeOf255
 v25:=Tryz.zeroValue255
 t39:=Tryz.underlying236
 a39:=Tryz.isAgg236
 z39:=Tryz.sizeOf236
 v39:=Tryz.zeroValue236
 t45:=Tryz.underlying297
 a45:=Tryz.isAgg297
 z45:=Tryz.sizeOf297
 v45:=Tryz.zeroValue297
 t46:=Tryz.underlying298
 a46:=Tryz.isAgg298
 z46:=Tryz.sizeOf298
 v46:=Tryz.zeroValue298
 t50:=Tryz.underlying139
 a50:=Tryz.isAgg139
 z50:=Tryz.sizeOf139
 v50:=Tryz.zeroValue139
 t53:=Tryz.underlying272
 a53:=Tryz.isAgg272
 z53:=Tryz.sizeOf272
 v53:=Tryz.zeroValue272
 t55:=Tryz.underlying189
 a55:=Tryz.isAgg189
 z55:=Tryz.sizeOf189
 v55:=Tryz.zeroValue189
 t66:=Tryz.underlying328
 a66:=Tryz.isAgg328
 z66:=Tryz.sizeOf328
 v66:=Tryz.zeroValue328
 t70:=Tryz.underlying332
 a70:=Tryz.isAgg332
 z70:=Tryz.sizeOf332
 v70:=Tryz.zeroValue332
 t76:=Tryz.underlying343
 a76:=Tryz.isAgg343
 z76:=Tryz.sizeOf343
 v76:=Tryz.zeroValue343
 t77:=Tryz.underlying344
 a77:=Tryz.isAgg344
 z77:=Tryz.sizeOf344
 v77:=Tryz.zeroValue344
def Tryz.insPU_ren:Go.Shelf.Ren:=⟨fun|15=>223|20=>264|28=>247|29=>226|47=>267|48=>268|n=>n,fun|0=>0|3=>3|4=>4|5=>5|9=>9|22=>148|24=>201|25=>280|n=>n,fun n=>n⟩
def Tryz.insPU:SlLaysF0.n20 Tryz.prog Tryz.insPU_ren where
 mixed:=by kernel_rfl
 f20:=⟨"slices.insertionSortCmpFunc[viator/pieces.Unit[viator/api.Line]]",by decide,Tryz.func264.trans (congrArg some (by kernel_rfl))⟩
 t0:=Tryz.underlying0
 a0:=Tryz.isAgg0
 z0:=Tryz.sizeOf0
 v0:=Tryz.zeroValue0
 t3:=Tryz.underlying3
 a3:=Tryz.isAgg3
 z3:=Tryz.sizeOf3
 v3:=Tryz.zeroValue3
 t4:=Tryz.underlying4
 a4:=Tryz.isAgg4
 z4:=Tryz.sizeOf4
 v4:=Tryz.zeroValue4
 t22:=Tryz.underlying148
 a22:=Tryz.isAgg148
 z22:=Tryz.sizeOf148
 v22:=Tryz.zeroValue148
 t25:=Tryz.underlying280
 a25:=Tryz.isAgg280
 z25:=Tryz.sizeOf280
 v25:=Tryz.zeroValue280
end Go.Proofs
namespace Go.Via
open Go
def VV(n i:Nat)(h:i<nb n):(bF n).data.toList[((nb n-1-i:Nat):Int).toNat]? =some (UInt8.ofNat (n/256^i%256)):=by
 have:=Ua n (nb n-1-i) (by omega)
 rwa [show nb n-1-(nb n-1-i)=i by omega] at this
theorem Ug(n i j:Nat):xP n (i+1) j=if j=i/4 then xP n i (i/4)+2^(8*(i%4))*(n/256^i%256) else xP n i j:=by
 rw[XP];split
 ·rename_i e;rw[<-e]
 ·rfl
def qdD{x s:Int}(m k:Nat)(hx:x=(m:Int))(hs:s=(k:Int))(hk:k<=32):x.fdiv (2^(min s.toNat IntKind.u32.bits))=((m/2^k:Nat):Int):=by
 subst hx;subst hs;have:min (k:Int).toNat IntKind.u32.bits=k:=by rw[TF];omega
 rw[this,Int.fdiv_eq_ediv_of_nonneg _ (Int.pow_nonneg (by omega))];simp
def qaf{l:List Nat}{N M i:Nat}(hl:∀d∈l,d<ae)(hN:val ae l=N)(hM:(ag ae N).length=M)(hi:i<M):l[i]? =some (N/ae^i%ae):=by
 subst hN;subst hM;have h1:=wK dh hl;have h2:=jZ (B:=ae) dh hi;rw[<-h1,List.getElem?_take] at h2;rw[if_pos hi] at h2;exact h2
theorem Uh{l:List Nat}{N M:Nat}(hN:val ae l=N)(hM:(ag ae N).length=M)(h0:M=0):(⟨#[]⟩:ByteArray)=bF N:=by
 subst h0;have:N=0:=(uO dh).1 (List.eq_nil_of_length_eq_zero hM);rw[this,iK]
theorem X8{N M:Nat}(hM:(ag ae N).length=M):N<256^(4*M):=by
 rw[<-DY,<-hM];exact dP dh N
def Eb{m n:Nat}(h:(decide (nb m<=8)&&decide (nb n<=8))=true):m<18446744073709551616∧n<18446744073709551616∧nb m<=8∧nb n<=8:=by
 simp only[Bool.and_eq_true,decide_eq_true_eq] at h;have h1:=oC h.1;have h2:=oC h.2;exact⟨by omega,by omega,h.1,h.2⟩
def mr(X Y i:Nat):Nat:=(X%ae^i+Y%ae^i)/ae^i+X/ae^i%ae+Y/ae^i%ae
def mZ(X Y i:Nat):Nat:=(X%ae^i+Y%ae^i)/ae^i
def nM(X Y i j:Nat):Nat:=if j<i then(X+Y)/ae^j%ae else X/ae^j%ae
theorem bU(i:Nat):0<ae^i:=Nat.pow_pos (by decide)
def aS(n:Nat):n%ae<4294967296:=Nat.mod_lt _ (by decide)
def oP(X Y i:Nat):mZ X Y i<=1:=by
 unfold mZ;have h1:=Nat.mod_lt X (bU i);have h2:=Nat.mod_lt Y (bU i);have:(X%ae^i+Y%ae^i)/ae^i<2:=by rw[Nat.div_lt_iff_lt_mul (bU i)];omega
 omega
theorem qi(X Y:Nat):mZ X Y 0=0:=by simp[mZ,Nat.mod_one]
theorem xX(X Y i:Nat):mr X Y i=mZ X Y i+X/ae^i%ae+Y/ae^i%ae:=rfl
def xY(X Y i:Nat):mr X Y i<8589934592:=by
 have:=oP X Y i;have h1:=aS (X/ae^i);have h2:=aS (Y/ae^i);rw[xX];omega
theorem ji(X Y i:Nat):mr X Y i/2^32=mZ X Y (i+1):=by
 show _/ae=_;unfold mr mZ;rw[Nat.pow_succ,Nat.mod_mul,Nat.mod_mul,<-Nat.div_div_eq_div_mul]
 congr 1
 have e:X%ae^i+ae^i*(X/ae^i%ae)+(Y%ae^i+ae^i*(Y/ae^i%ae))=(X%ae^i+Y%ae^i)+ae^i*(X/ae^i%ae+Y/ae^i%ae):=(by rw[Nat.mul_add];omega);rw[e,Nat.add_mul_div_left _ _ (bU i)];omega
theorem QH(X Y i:Nat):mr X Y i%4294967296=(X+Y)/ae^i%ae:=by
 show _%ae=_;have e:X+Y=(X%ae^i+Y%ae^i)+ae^i*(X/ae^i+Y/ae^i):=by
  have h1:=Nat.mod_add_div X (ae^i);have h2:=Nat.mod_add_div Y (ae^i);rw[Nat.mul_add];omega
 conv=>rhs;rw[e]
 rw[Nat.add_mul_div_left _ _ (bU i)];unfold mr
 generalize(X%ae^i+Y%ae^i)/ae^i=c
 generalize X/ae^i=p
 generalize Y/ae^i=q
 rw[Nat.add_assoc,Nat.add_mod,<-Nat.add_mod p q,<-Nat.add_mod]
theorem oD(X Y i j:Nat):nM X Y (i+1) j=if j=i then mr X Y i%4294967296 else nM X Y i j:=by
 rw[QH];unfold nM
 by_cases e:j=i
 ·subst e;rw[if_pos (by omega),if_pos rfl]
 ·rw[if_neg e]
  by_cases c:j<i
  ·rw[if_pos c,if_pos (by omega)]
  ·rw[if_neg c,if_neg (by omega)]
theorem Iw(X Y i:Nat):nM X Y i i=X/ae^i%ae:=by unfold nM;rw[if_neg (by omega)]
theorem nU{Y i:Nat}(h:(ag ae Y).length<=i):Y/ae^i%ae=0:=by
 rw[Nat.div_eq_of_lt (Nat.lt_of_lt_of_le (dP dh Y) (Nat.pow_le_pow_right (by decide) h))];rfl
def AA(X Y:Nat):NV .u32 (ag ae X)++(NV .u32 (List.replicate ((ag ae X).length+1) 0)).drop (ag ae X).length=NV .u32 (row ((ag ae X).length+1) (nM X Y 0)):=by
 rw[Vq,LJ]
 congr 1
 have e:row ((ag ae X).length+1) (nM X Y 0)=row (ag ae X).length (fun j=>X/ae^j%ae)++[0]:=by
  unfold row;rw[List.range_succ,List.map_append]
  congr 1
  simp only[List.map_cons,List.map_nil,nM];rw[if_neg (by omega),nU (Nat.le_refl _)]
 rw[e,<-zk dh X]
 congr 1
 simp
theorem Ec{X Y:Nat}(h:(ag ae Y).length<=(ag ae X).length):val ae (row ((ag ae X).length+1) (nM X Y ((ag ae X).length+1)))=X+Y:=by
 rw[bu (g:=fun j=>(X+Y)/ae^j%ae) (fun j hj=>by unfold nM;rw[if_pos hj]),oO ae (by decide),Nat.mod_eq_of_lt]
 have h1:=dP dh X;have h2:=Nat.lt_of_lt_of_le (dP dh Y) (Nat.pow_le_pow_right (by decide) h);rw[Nat.pow_succ];have:ae^(ag ae X).length*2<=ae^(ag ae X).length*ae:=Nat.mul_le_mul_left _ (by decide);omega
def Iy(X Y i j:Nat):nM X Y i j<ae:=by unfold nM;split<;>exact aS _
def jK{n k:Nat}(h:nb n<=k):(ag ae n).length<=(k+3)/4:=by rw[DZ];omega
def jb(m n i:Nat):Nat:=if m%ae^i<n%ae^i then 1 else 0
def yL(m n i j:Nat):Nat:=if j<i then(m-n)/ae^j%ae else m/ae^j%ae
theorem AB(m n:Nat):jb m n 0=0:=by simp[jb,Nat.mod_one]
def sG(m n i:Nat):jb m n i<=1:=by unfold jb;split<;>omega
def VW{m n i:Nat}(h:n<=m):(m-n)/ae^i+n/ae^i+jb m n i=m/ae^i:=by
 have h1:=Nat.mod_add_div m (ae^i);have h2:=Nat.mod_add_div n (ae^i);have h3:=Nat.mod_lt m (bU i);have h4:=Nat.mod_lt n (bU i);have hp:=bU i
 generalize hP:ae^i=P at*
 generalize m/P=M at*
 generalize n/P=N at*
 unfold jb;rw[hP]
 split
 ·rename_i hlt
  have hMN:N+1<=M:=by
   by_cases c:M<=N
   ·have:=Nat.mul_le_mul_left P c;omega
   ·omega
  obtain⟨k,rfl⟩:∃k,M=N+1+k:=⟨M-(N+1),by omega⟩;have e:m-n=(m%P+P-n%P)+P*k:=by
   rw[Nat.mul_add,Nat.mul_add] at h1;omega
  rw[e,Nat.add_mul_div_left _ _ hp,Nat.div_eq_of_lt (by omega)];omega
 ·rename_i hge
  have hMN:N<=M:=by
   by_cases c:M<N
   ·have:=Nat.mul_le_mul_left P c;rw[Nat.mul_succ] at this;omega
   ·omega
  obtain⟨k,rfl⟩:∃k,M=N+k:=⟨M-N,by omega⟩;have e:m-n=(m%P-n%P)+P*k:=by
   rw[Nat.mul_add] at h1;omega
  rw[e,Nat.add_mul_div_left _ _ hp,Nat.div_eq_of_lt (by omega)];omega
theorem MK(m n i:Nat):jb m n (i+1)=if m/ae^i%ae<n/ae^i%ae+jb m n i then 1 else 0:=by
 unfold jb;rw[Nat.pow_succ,Nat.mod_mul,Nat.mod_mul];have h3:=Nat.mod_lt m (bU i);have h4:=Nat.mod_lt n (bU i)
 generalize m/ae^i%ae=x
 generalize n/ae^i%ae=y
 generalize hP:ae^i=P at*
 have key:(m%P+P*x<n%P+P*y)↔x<y+(if m%P<n%P then 1 else 0):=by
  rcases Nat.lt_trichotomy x y with c|c|c
  ·have:=Nat.mul_le_mul_left P c;rw[Nat.mul_succ] at this
   constructor<;>intro _<;>omega
  ·subst c;split<;>constructor<;>intro _<;>omega
  ·have:=Nat.mul_le_mul_left P c;rw[Nat.mul_succ] at this
   split<;>constructor<;>intro _<;>omega
 simp only[key]
def OC{m n i:Nat}(h:n<=m)(hd:m/ae^i%ae<n/ae^i%ae+jb m n i):m/ae^i%ae+4294967296=(m-n)/ae^i%ae+n/ae^i%ae+jb m n i∧jb m n (i+1)=1:=by
 refine⟨?_,by rw[MK,if_pos hd]⟩;have h1:=VW (i:=i) h;have h2:=sG m n i;unfold ae at*;omega
def OD{m n i:Nat}(h:n<=m)(hd:¬m/ae^i%ae<n/ae^i%ae+jb m n i):m/ae^i%ae=(m-n)/ae^i%ae+n/ae^i%ae+jb m n i∧jb m n (i+1)=0:=by
 refine⟨?_,by rw[MK,if_neg hd]⟩;have h1:=VW (i:=i) h;have h2:=sG m n i;unfold ae at*;omega
theorem AL(m n i j:Nat):yL m n (i+1) j=if j=i then(m-n)/ae^i%ae else yL m n i j:=by
 unfold yL
 by_cases e:j=i
 ·subst e;rw[if_pos (by omega),if_pos rfl]
 ·rw[if_neg e]
  by_cases c:j<i
  ·rw[if_pos c,if_pos (by omega)]
  ·rw[if_neg c,if_neg (by omega)]
theorem qdE(m n i:Nat):yL m n i i=m/ae^i%ae:=by unfold yL;rw[if_neg (by omega)]
def X9(m n:Nat):NV .u32 (ag ae m)++(NV .u32 (List.replicate (ag ae m).length 0)).drop (ag ae m).length=NV .u32 (row (ag ae m).length (yL m n 0)):=by
 rw[Vq,LJ]
 congr 1
 rw[bu (g:=fun j=>m/ae^j%ae) (fun j _=>by unfold yL;rw[if_neg (by omega)]),<-zk dh m];simp
theorem qag{m n:Nat}(h:n<=m):val ae (row (ag ae m).length (yL m n (ag ae m).length))=m-n:=by
 rw[bu (g:=fun j=>(m-n)/ae^j%ae) (fun j hj=>by unfold yL;rw[if_pos hj]),oO ae (by decide),Nat.mod_eq_of_lt]
 have h1:=dP dh m;omega
def qdF(m n i j:Nat):yL m n i j<ae:=by unfold yL;split<;>exact aS _
def pg(m n i:Nat):Nat:=m%ae^i*n
def xZ(m n i k:Nat):Nat:=(pg m n i/ae^i%ae^k+m/ae^i%ae*(n%ae^k))/ae^k
def CG(m n i k:Nat):Nat:=xZ m n i k+pg m n i/ae^(i+k)%ae+m/ae^i%ae*(n/ae^k%ae)
def FT(m n i k j:Nat):Nat:=if j<i+k then pg m n (i+1)/ae^j%ae else pg m n i/ae^j%ae
def zB(m n i j:Nat):Nat:=pg m n i/ae^j%ae
theorem ML(m n i:Nat):pg m n (i+1)=pg m n i+ae^i*(m/ae^i%ae*n):=by
 unfold pg;rw[Nat.pow_succ,Nat.mod_mul,Nat.add_mul,Nat.mul_assoc]
theorem MM(m n i:Nat):xZ m n i 0=0:=by simp[xZ,Nat.mod_one]
def OE(m n i k:Nat):xZ m n i k<ae:=by
 unfold xZ;rw[Nat.div_lt_iff_lt_mul (bU k)];have h1:=Nat.mod_lt (pg m n i/ae^i) (bU k);have h2:=Nat.mod_lt n (bU k);have h3:m/ae^i%ae+1<=ae:=Nat.mod_lt _ (by decide);have h4:(m/ae^i%ae)*(n%ae^k)<=(m/ae^i%ae)*(ae^k):=Nat.mul_le_mul_left _ (by omega);have h5:(m/ae^i%ae+1)*ae^k<=ae*ae^k:=Nat.mul_le_mul_right _ h3;rw[Nat.add_mul] at h5;omega
def OG(p q:Nat):p%ae*(q%ae)<=18446744065119617025:=by
 have h1:p%ae<=4294967295:=(by have:=aS p;omega);have h2:q%ae<=4294967295:=(by have:=aS q;omega);exact Nat.mul_le_mul h1 h2
def Ed(m n i k:Nat):CG m n i k<18446744073709551616:=by
 have h1:=OE m n i k;have h2:=aS (pg m n i/ae^(i+k));have h3:=OG (m/ae^i) (n/ae^k);unfold CG ae at*;omega
theorem zC(V i k:Nat):V/ae^(i+k)=V/ae^i/ae^k:=by rw[Nat.pow_add,Nat.div_div_eq_div_mul]
theorem JC(m n i k:Nat):CG m n i k/2^32=xZ m n i (k+1):=by
 show _/ae=_;unfold CG xZ;rw[zC,Nat.pow_succ,Nat.mod_mul,Nat.mod_mul,<-Nat.div_div_eq_div_mul]
 congr 1
 generalize m/ae^i%ae=dd
 generalize pg m n i/ae^i=A
 have e:A%ae^k+ae^k*(A/ae^k%ae)+dd*(n%ae^k+ae^k*(n/ae^k%ae))=(A%ae^k+dd*(n%ae^k))+ae^k*(A/ae^k%ae+dd*(n/ae^k%ae)):=(by grind);rw[e,Nat.add_mul_div_left _ _ (bU k)];omega
theorem QI(m n i k:Nat):CG m n i k%4294967296=pg m n (i+1)/ae^(i+k)%ae:=by
 show _%ae=_;unfold CG xZ;rw[zC,zC,ML,Nat.add_mul_div_left _ _ (bU i)]
 generalize m/ae^i%ae=dd
 generalize pg m n i/ae^i=A
 have e:A+dd*n=(A%ae^k+dd*(n%ae^k))+ae^k*(A/ae^k+dd*(n/ae^k)):=by
  have h1:=Nat.mod_add_div A (ae^k);have h2:=Nat.mod_add_div n (ae^k)
  conv=>lhs;rw[<-h1,<-h2]
  grind
 conv=>rhs;rw[e]
 rw[Nat.add_mul_div_left _ _ (bU k)]
 generalize(A%ae^k+dd*(n%ae^k))/ae^k=c
 generalize A/ae^k=p
 generalize n/ae^k=q
 have e2:∀x y z w:Nat,(x+y%ae+z*(w%ae))%ae=(x+(y+z*w))%ae:=by
  intro x y z w;have h1:=Nat.mod_add_div y ae;have h2:=Nat.mod_add_div w ae;have:x+(y+z*w)=(x+y%ae+z*(w%ae))+ae*(y/ae+z*(w/ae)):=by
   conv=>lhs;rw[<-h1,<-h2]
   grind
  rw[this,Nat.add_mul_mod_self_left]
 exact e2 c p dd q
theorem VX(m n i k:Nat):FT m n i k (i+k)=pg m n i/ae^(i+k)%ae:=by unfold FT;rw[if_neg (by omega)]
theorem MN(m n i k j:Nat):FT m n i (k+1) j=if j=i+k then CG m n i k%4294967296 else FT m n i k j:=by
 rw[QI];unfold FT
 by_cases e:j=i+k
 ·subst e;rw[if_pos (by omega),if_pos rfl]
 ·rw[if_neg e]
  by_cases c:j<i+k
  ·rw[if_pos c,if_pos (by omega)]
  ·rw[if_neg c,if_neg (by omega)]
theorem MO(m n i j:Nat):FT m n i 0 j=zB m n i j:=by
 unfold FT zB
 split
 ·rename_i h
  rw[ML];have e0:ae^i=ae^j*(ae*ae^(i-j-1)):=by
   rw[<-Nat.mul_assoc,<-Nat.pow_succ,<-Nat.pow_add,show j+1+(i-j-1)=i by omega]
  have e:ae^i*(m/ae^i%ae*n)=ae^j*(ae*(ae^(i-j-1)*(m/ae^i%ae*n))):=by
   generalize m/ae^i%ae*n=r
   rw[e0,Nat.mul_assoc,Nat.mul_assoc]
  rw[e,Nat.add_mul_div_left _ _ (bU j),Nat.add_mul_mod_self_left]
 ·rfl
theorem IA(m n i:Nat):pg m n i<ae^(i+(ag ae n).length):=by
 unfold pg;rw[Nat.pow_add];have h1:=Nat.mod_lt m (bU i);have h2:=dP dh n
 calc m%ae^i*n<=ae^i*n:=Nat.mul_le_mul_right _ (by omega)
  _<ae^i*ae^(ag ae n).length:=(Nat.mul_lt_mul_left (bU i)).2 h2
theorem qah(m n i:Nat):xZ m n i (ag ae n).length%4294967296=pg m n (i+1)/ae^(i+(ag ae n).length)%ae:=by
 have h:=QI m n i (ag ae n).length;unfold CG at h;rw[nU (Nat.le_refl _),Nat.div_eq_of_lt (IA m n i)] at h
 simpa using h
theorem MP(m n i j:Nat):zB m n (i+1) j=if j=i+(ag ae n).length then xZ m n i (ag ae n).length%4294967296 else FT m n i (ag ae n).length j:=by
 rw[qah];unfold FT zB
 by_cases e:j=i+(ag ae n).length
 ·subst e;rw[if_pos rfl]
 ·rw[if_neg e]
  by_cases c:j<i+(ag ae n).length
  ·rw[if_pos c]
  ·rw[if_neg c];have h1:ae^(i+(ag ae n).length)<=ae^j:=Nat.pow_le_pow_right (by decide) (by omega);have h2:ae^(i+1+(ag ae n).length)<=ae^j:=Nat.pow_le_pow_right (by decide) (by omega);rw[Nat.div_eq_of_lt (Nat.lt_of_lt_of_le (IA m n i) h1),Nat.div_eq_of_lt (Nat.lt_of_lt_of_le (IA m n (i+1)) h2)]
theorem MQ(m n j:Nat):zB m n 0 j=0:=by simp[zB,pg,Nat.mod_one]
theorem QJ(m n:Nat):val ae (row ((ag ae m).length+(ag ae n).length+1) (zB m n (ag ae m).length))=m*n:=by
 have e:pg m n (ag ae m).length=m*n:=(by unfold pg;rw[Nat.mod_eq_of_lt (dP dh m)]);have h:=IA m n (ag ae m).length;rw[bu (g:=fun j=>m*n/ae^j%ae) (fun j hj=>by unfold zB;rw[e]),oO ae (by decide),Nat.mod_eq_of_lt];rw[e] at h;exact Nat.lt_of_lt_of_le h (Nat.pow_le_pow_right (by decide) (by omega))
def VY(m n i j:Nat):zB m n i j<ae:=aS _
def Ya{m n:Nat}(h:((m*n/18446744073709551616:Nat):Int)=0):m*n%18446744073709551616=m*n:=by omega
def QK(m n i k:Nat):pg m n i/ae^(i+k)%ae+m/ae^i%ae*(n/ae^k%ae)<18446744073709551616:=by
 have:=Ed m n i k;unfold CG at this;omega
def MR(m n i k:Nat):((xZ m n i k:Nat):Int)+((pg m n i/ae^(i+k)%ae+m/ae^i%ae*(n/ae^k%ae):Nat):Int)=((CG m n i k:Nat):Int):=by
 unfold CG;rw[<-Int.natCast_add,Nat.add_assoc]
def OH(m y p j:Nat):Nat:=if j<p then m/ae^j%ae else m/y/ae^j%ae
theorem qdG(m y q:Nat):OH m y (q+1) q=m/ae^q%ae:=by unfold OH;rw[if_pos (by omega)]
def qai(m q:Nat):m/ae^q=m/ae^(q+1)*ae+m/ae^q%ae:=by
 rw[Nat.pow_succ,<-Nat.div_div_eq_div_mul];have:=Nat.div_add_mod (m/ae^q) ae;rw[Nat.mul_comm] at this;omega
def Ht(m y q:Nat):Nat:=m/ae^(q+1)%y*ae+m/ae^q%ae
def VZ(m y q:Nat)(hy:0<y):m/ae^q=y*(m/ae^(q+1)/y*ae)+Ht m y q:=by
 have h1:=qai m q;have h2:=Nat.div_add_mod (m/ae^(q+1)) y;unfold Ht
 conv=>lhs;rw[h1,<-h2]
 rw[Nat.add_mul,Nat.mul_assoc,Nat.add_assoc]
def OI(m y q:Nat)(hy:0<y):Ht m y q<y*ae:=by
 unfold Ht;have h1:m/ae^(q+1)%y+1<=y:=Nat.mod_lt _ hy;have h2:m/ae^q%ae<ae:=Nat.mod_lt _ (by decide);have h3:=Nat.mul_le_mul_right ae h1;rw[Nat.add_mul] at h3;omega
def Yb(m y q:Nat)(hy:0<y)(hy2:y<4294967296):Ht m y q<18446744073709551616:=by
 have h1:=OI m y q hy;have h2:y*ae<=4294967295*ae:=Nat.mul_le_mul_right _ (by omega);have e:(ae:Nat)=4294967296:=rfl;rw[e] at h1 h2;omega
theorem QL(m y q:Nat)(hy:0<y):Ht m y q/y=m/y/ae^q%ae:=by
 have h1:=VZ m y q hy;have h2:Ht m y q/y<ae:=(by rw[Nat.div_lt_iff_lt_mul hy,Nat.mul_comm];exact OI m y q hy);have e:m/y/ae^q=m/ae^q/y:=(by rw[Nat.div_div_eq_div_mul,Nat.div_div_eq_div_mul,Nat.mul_comm]);rw[e,h1,Nat.mul_add_div hy,Nat.mul_comm _ ae,Nat.mul_add_mod,Nat.mod_eq_of_lt h2]
theorem QM(m y q:Nat)(hy:0<y):Ht m y q%y=m/ae^q%y:=by
 have h1:=VZ m y q hy
 conv=>rhs;rw[h1]
 rw[Nat.mul_add_mod]
theorem Yc(m y q j:Nat)(hy:0<y):OH m y q j=if j=q then Ht m y q/y%4294967296 else OH m y (q+1) j:=by
 rw[QL m y q hy];show _=if j=q then _%ae else _
 rw[Nat.mod_mod];unfold OH
 by_cases e:j=q
 ·subst e;rw[if_neg (by omega),if_pos rfl]
 ·rw[if_neg e]
  by_cases c:j<q
  ·rw[if_pos c,if_pos (by omega)]
  ·rw[if_neg c,if_neg (by omega)]
def Ui(m y:Nat):ag ae m=row (ag ae m).length (OH m y (ag ae m).length):=by
 conv=>lhs;rw[zk dh m]
 exact bu fun j hj=>by unfold OH;rw[if_pos hj]
theorem Uj(m y:Nat):m/ae^(ag ae m).length%y=0:=by
 rw[Nat.div_eq_of_lt (dP dh m)];simp
def qdH(m y j:Nat):Nat:=m/y/ae^j%ae
theorem qaj(m y:Nat):val ae (row (ag ae m).length (qdH m y))=m/y:=by
 unfold qdH;rw[oO ae (by decide),Nat.mod_eq_of_lt];exact Nat.lt_of_le_of_lt (Nat.div_le_self _ _) (dP dh m)
def OJ(m s i:Nat):Nat:=m%ae^i*2^s
def MS(m s i j:Nat):Nat:=OJ m s i/ae^j%ae
def Hu(m s i:Nat):Nat:=m/ae^i%ae*2^s
theorem JD(m s i:Nat):OJ m s (i+1)=OJ m s i+ae^i*Hu m s i:=by
 unfold OJ Hu;rw[Nat.pow_succ,Nat.mod_mul,Nat.add_mul,Nat.mul_assoc]
def x8{s:Nat}(hs:s<32):2^s<=2147483648:=Nat.pow_le_pow_right (n:=2) (by omega) (show s<=31 by omega)
def qgM(m s i:Nat)(hs:s<32):Hu m s i<18446744073709551616:=by
 unfold Hu;have h1:=aS (m/ae^i);have h2:=x8 hs;have:m/ae^i%ae*2^s<=4294967295*2147483648:=Nat.mul_le_mul (by omega) h2;omega
def OL(m s i:Nat):OJ m s i/ae^i<2^s:=by
 rw[Nat.div_lt_iff_lt_mul (bU i)];unfold OJ;rw[Nat.mul_comm];exact(Nat.mul_lt_mul_left (Nat.pow_pos (by omega))).2 (Nat.mod_lt _ (bU i))
theorem uV{s:Nat}(hs:s<32):ae=2^s*2^(32-s):=by rw[<-Nat.pow_add,show s+(32-s)=32 by omega];rfl
def V3(m s i:Nat)(hs:s<32):Hu m s i%4294967296=2^s*(m/ae^i%ae%2^(32-s)):=by
 show _%ae=_;unfold Hu
 conv=>lhs;rw[uV hs]
 rw[Nat.mul_comm _ (2^s),Nat.mul_mod_mul_left]
 congr 1
 rw[<-uV hs]
theorem qak(m s i:Nat)(hs:s<32):MS m s i i=OJ m s i/ae^i:=by
 unfold MS;have h1:=OL m s i;have h2:=x8 hs;exact Nat.mod_eq_of_lt (by unfold ae at*;omega)
def qal(m s i:Nat)(hs:s<32):OJ m s i/ae^i+Hu m s i%4294967296<4294967296∧MS m s (i+1) i=OJ m s i/ae^i+Hu m s i%4294967296:=by
 have h1:=OL m s i;have e:=V3 m s i hs;have h3:m/ae^i%ae%2^(32-s)+1<=2^(32-s):=Nat.mod_lt _ (Nat.pow_pos (by omega));have h4:=Nat.mul_le_mul_left (2^s) h3;have hB:=uV hs;rw[<-hB,Nat.mul_add] at h4;have hlt:OJ m s i/ae^i+Hu m s i%4294967296<4294967296:=(by rw[e];unfold ae at*;omega);refine⟨hlt,?_⟩;unfold MS;rw[JD,Nat.add_mul_div_left _ _ (bU i)];have:OJ m s i/ae^i+Hu m s i=(OJ m s i/ae^i+Hu m s i%ae)+ae*(Hu m s i/ae):=by
  have:=Nat.mod_add_div (Hu m s i) ae;omega
 rw[this,Nat.add_mul_mod_self_left];exact Nat.mod_eq_of_lt hlt
theorem qdI(m s i:Nat)(hs:s<32):MS m s (i+1) (i+1)=Hu m s i/2^32%4294967296:=by
 have h0:=(qal m s i hs).1;unfold MS;rw[JD,Nat.pow_succ,<-Nat.div_div_eq_div_mul,Nat.add_mul_div_left _ _ (bU i)];have:OJ m s i/ae^i+Hu m s i=(OJ m s i/ae^i+Hu m s i%ae)+ae*(Hu m s i/ae):=by
  have:=Nat.mod_add_div (Hu m s i) ae;omega
 have h0':OJ m s i/ae^i+Hu m s i%ae<ae:=h0;rw[this,Nat.add_mul_div_left _ _ (by decide),Nat.div_eq_of_lt h0',Nat.zero_add]
 rfl
def qgN(m s i:Nat):OJ m s i<ae^i*2^s:=(Nat.mul_lt_mul_right (Nat.pow_pos (by omega))).2 (Nat.mod_lt _ (bU i))
def shM(m s i j:Nat):Nat:=if j=i then MS m s (i+1) i else MS m s i j
theorem qam(m s i j:Nat)(hs:s<32):MS m s (i+1) j=if j=i+1 then Hu m s i/2^32%4294967296 else shM m s i j:=by
 by_cases e:j=i+1
 ·subst e;rw[if_pos rfl,qdI m s i hs]
 ·rw[if_neg e];unfold shM
  by_cases e2:j=i
  ·subst e2;rw[if_pos rfl]
  ·rw[if_neg e2];unfold MS
   by_cases c:j<i
   ·rw[JD];have e0:ae^i=ae^j*(ae*ae^(i-j-1)):=by
     rw[<-Nat.mul_assoc,<-Nat.pow_succ,<-Nat.pow_add,show j+1+(i-j-1)=i by omega]
    rw[e0,Nat.mul_assoc,Nat.add_mul_div_left _ _ (bU j),Nat.mul_assoc,Nat.add_mul_mod_self_left]
   ·have h2:=x8 hs;have h3:ae^(i+2)<=ae^j:=Nat.pow_le_pow_right (by decide) (by omega);have key:∀k,k<=i+1->OJ m s k/ae^j=0:=fun k hk=>Nat.div_eq_of_lt (by
 have h4:=qgN m s k;have h5:ae^k*2^s<=ae^(i+1)*ae:=Nat.mul_le_mul (Nat.pow_le_pow_right (by decide) hk) (by unfold ae;omega);rw[<-Nat.pow_succ] at h5;have h6:ae^(i+1).succ=ae^(i+2):=rfl;omega)
    rw[key (i+1) (by omega),key i (by omega)]
theorem qan(m s j:Nat):MS m s 0 j=0:=by simp[MS,OJ,Nat.mod_one]
def zF(N j:Nat):Nat:=N/ae^j%ae
theorem qdJ(m s j:Nat):MS m s (ag ae m).length j=zF (m*2^s) j:=by
 unfold MS zF OJ;rw[Nat.mod_eq_of_lt (dP dh m)]
def qiZ(m s i:Nat)(hs:s<32):IntKind.u32.wrap ((BitVec.ofInt IntKind.u32.bits ((MS m s i i:Nat):Int)|||BitVec.ofInt IntKind.u32.bits ((Hu m s i%4294967296:Nat):Int)).toNat)=((MS m s (i+1) i:Nat):Int):=by
 obtain⟨h1,h2⟩:=qal m s i hs;rw[<-qak m s i hs] at h1 h2;have e:=V3 m s i hs;rw[e] at h1 h2 ⊢;exact VK s (by rw[qak m s i hs];exact OL m s i) h2.symm (by rw[h2];exact h1) rfl rfl
theorem mD(k:Nat):ae^(k+1)=ae^k*ae:=Nat.pow_succ ..
def GOK(Y W L g r:Nat):Prop:=g*(Y/ae^(L-1))+r=W/ae^(L-1)∧r<4294967296∧W/Y<=g∧g<=4294967297
def vP(V L:Nat)(hL:2<=L):V=(V/ae^(L-1)*ae+V/ae^(L-2)%ae)*ae^(L-2)+V%ae^(L-2):=by
 have h1:=Nat.div_add_mod V (ae^(L-2));have h2:=qai V (L-2);rw[show L-2+1=L-1 by omega] at h2;rw[<-h2,Nat.mul_comm];exact h1.symm
structure CJ(Y W L:Nat):Prop where
 hL:2<=L
 lo:ae^L<=2*Y
 hi:Y<ae^L
 w:W<Y*ae
def CJ.y1{Y W L:Nat}(h:CJ Y W L):2147483648<=Y/ae^(L-1)∧Y/ae^(L-1)<4294967296:=by
 have hp:=bU (L-1);have e:ae^L=ae^(L-1)*ae:=(by rw[<-mD,show L-1+1=L by have:=h.hL;omega]);have h1:=h.lo;have h2:=h.hi;rw[e] at h1 h2;refine⟨?_,?_⟩
 ·rw[Nat.le_div_iff_mul_le hp];have:ae^(L-1)*ae=2*(2147483648*ae^(L-1)):=by unfold ae;omega
  omega
 ·rw[Nat.div_lt_iff_lt_mul hp];rw[Nat.mul_comm] at h2;exact h2
theorem CJ.pos{Y W L:Nat}(h:CJ Y W L):0<Y:=by have:=h.lo;have:=bU L;omega
def CJ.wlt{Y W L:Nat}(h:CJ Y W L):W<ae^(L+1):=by
 have:=Nat.mul_le_mul_right ae (Nat.le_of_lt h.hi);rw[mD];exact Nat.lt_of_lt_of_le h.w this
def CJ.high{Y W L:Nat}(h:CJ Y W L):W/ae^(L-1)<(Y/ae^(L-1)+1)*ae:=by
 refine qcU (B:=ae) (vP Y L h.hL) (vP W L h.hL) (Nat.mod_lt _ (bU _)) (Nat.mod_lt _ (by decide)) (by rw[Nat.mul_comm];exact h.w)
def CJ.high64{Y W L:Nat}(h:CJ Y W L):W/ae^(L-1)<18446744073709551616:=by
 have h1:=h.wlt;rw[Nat.div_lt_iff_lt_mul (bU _)];have:ae^(L+1)=18446744073709551616*ae^(L-1):=by
  rw[show L+1=2+(L-1) by have:=h.hL;omega,Nat.pow_add];rfl
 omega
theorem CJ.q{Y W L:Nat}(h:CJ Y W L):W/Y<4294967296:=by
 rw[Nat.div_lt_iff_lt_mul h.pos,Nat.mul_comm];exact h.w
def qdK{Y W L:Nat}(h:CJ Y W L):GOK Y W L (W/ae^(L-1)/(Y/ae^(L-1))) (W/ae^(L-1)% (Y/ae^(L-1))):=by
 obtain⟨a1,a2⟩:=h.y1;have a3:=Nat.mod_lt (W/ae^(L-1)) (show 0<Y/ae^(L-1) by omega);refine⟨by rw[Nat.mul_comm];exact Nat.div_add_mod _ _,by omega,?_,?_⟩
 ·exact Qj (B:=ae) (bU (L-2)) (vP Y L h.hL) (vP W L h.hL) (Nat.mod_lt _ (bU _)) (Nat.mod_lt _ (by decide)) (by omega) h.pos
 ·have h1:=h.high;have:W/ae^(L-1)/(Y/ae^(L-1))<4294967298:=by
   rw[Nat.div_lt_iff_lt_mul (by omega)];unfold ae at*;omega
  omega
def qao{Y W L g r:Nat}(h:CJ Y W L)(hg:GOK Y W L g r)(ht:4294967296<=g∨r*2^32+W/ae^(L-2)%ae<g*(Y/ae^(L-2)%ae)):
 W/Y<g:=by
 rcases ht with ht|ht
 ·have:=h.q;omega
 ·exact TV (B:=ae) (bU (L-2)) (vP Y L h.hL) (vP W L h.hL) (Nat.mod_lt _ (bU _)) hg.1 h.pos ht
def qfA{Y W L g r:Nat}(h:CJ Y W L)(hg:GOK Y W L g r)(hq:W/Y<g):(g-1)*(Y/ae^(L-1))+(r+Y/ae^(L-1))=W/ae^(L-1):=by
 have h0:0<g:=Nat.lt_of_le_of_lt (Nat.zero_le _) hq;obtain⟨k,rfl⟩:∃k,g=k+1:=⟨g-1,by omega⟩;have:=hg.1;rw[Nat.add_mul] at this;simp only[Nat.add_sub_cancel];omega
def qap{Y W L g r:Nat}(h:CJ Y W L)(hg:GOK Y W L g r)(hq:W/Y<g)(hr:r+Y/ae^(L-1)<4294967296):GOK Y W L (g-1) (r+Y/ae^(L-1)):=
 ⟨qfA h hg hq,hr,by omega,by have:=hg.2.2.2;omega⟩
def qgO{Y W L g r:Nat}(h:CJ Y W L)(hg:GOK Y W L g r)(hB:g<4294967296)(ht:g*(Y/ae^(L-2)%ae)<=r*2^32+W/ae^(L-2)%ae):g<=W/Y+1:=by
 obtain⟨a1,a2⟩:=h.y1;exact LX (B:=ae) (vP Y L h.hL) (vP W L h.hL) (Nat.mod_lt _ (bU _)) (by omega) (Nat.mod_lt _ (by decide)) hg.1 h.pos (by unfold ae;omega) (.inl ht)
def qaq{Y W L g r:Nat}(h:CJ Y W L)(hg:GOK Y W L g r)(hq:W/Y<g)(hr:4294967296<=r+Y/ae^(L-1)):g-1<=W/Y+1:=by
 obtain⟨a1,a2⟩:=h.y1;have:=hg.2.2.2;exact LX (B:=ae) (vP Y L h.hL) (vP W L h.hL) (Nat.mod_lt _ (bU _)) (by omega) (Nat.mod_lt _ (by decide)) (qfA h hg hq) h.pos (by unfold ae;omega) (.inr hr)
def gC(Y g i:Nat):Nat:=g*(Y%ae^i)/ae^i
def gS(Y g i:Nat):Nat:=gC Y g i+g*(Y/ae^i%ae)
theorem OM(Y g:Nat):gC Y g 0=0:=by simp[gC,Nat.mod_one]
def GM(Y g i:Nat)(hg:g<=4294967296):gC Y g i<=4294967295:=by
 unfold gC;have h1:=Nat.mod_lt Y (bU i);have:g*(Y%ae^i)/ae^i<4294967296:=by
  rw[Nat.div_lt_iff_lt_mul (bU i)];have h2:g*(Y%ae^i)<=4294967296*(Y%ae^i):=Nat.mul_le_mul_right _ hg;omega
 omega
def MV(Y g i:Nat)(hg:g<=4294967296):gS Y g i<18446744073709551616∧g*(Y/ae^i%ae)<18446744073709551616:=by
 unfold gS;have h1:=GM Y g i hg;have h2:=aS (Y/ae^i);have h3:g*(Y/ae^i%ae)<=4294967296*4294967295:=Nat.mul_le_mul hg (by omega);omega
theorem JE(Y g i:Nat):gS Y g i/2^32=gC Y g (i+1):=by
 show _/ae=_;unfold gS gC;rw[mD,Nat.mod_mul,<-Nat.div_div_eq_div_mul]
 congr 1
 have e:g*(Y%ae^i+ae^i*(Y/ae^i%ae))=g*(Y%ae^i)+ae^i*(g*(Y/ae^i%ae)):=(by grind);rw[e,Nat.add_mul_div_left _ _ (bU i)]
theorem Uk(Y g i:Nat):gS Y g i%4294967296=g*Y/ae^i%ae:=by
 show _%ae=_;have e:g*Y=g*(Y%ae^i)+ae^i*(g*(Y/ae^i)):=by
  have h1:=Nat.mod_add_div Y (ae^i)
  conv=>lhs;rw[<-h1]
  grind
 rw[e,Nat.add_mul_div_left _ _ (bU i)];unfold gS gC
 generalize g*(Y%ae^i)/ae^i=c
 generalize Y/ae^i=p
 rw[Nat.add_mod,<-Nat.mul_mod_mod,Nat.mod_mod,Nat.mul_mod_mod,<-Nat.add_mod]
def iO(Y W L g:Nat):Nat:=W+ae^(L+1)-g*Y
def qar{Y W L g:Nat}(h:CJ Y W L)(hg1:g<=W/Y+1):g*Y<=W+ae^(L+1):=by
 have h1:=Nat.mul_le_mul_right Y hg1;have h2:=Nat.div_mul_le_self W Y;rw[Nat.add_mul] at h1;have h3:=h.hi;have h4:ae^L<=ae^(L+1):=Nat.pow_le_pow_right (by decide) (by omega);omega
theorem JF{W L i:Nat}(hi:i<=L):(W+ae^(L+1))/ae^i%ae=W/ae^i%ae:=by
 have e:ae^(L+1)=ae^i*(ae*ae^(L-i)):=by
  rw[<-Nat.mul_assoc,<-mD,<-Nat.pow_add,show i+1+(L-i)=L+1 by omega]
 rw[e,Nat.add_mul_div_left _ _ (bU i),Nat.add_mul_mod_self_left]
def GN(X W D j i k:Nat):Nat:=if k<j then X/ae^k%ae else if k<j+i then D/ae^(k-j)%ae else W/ae^(k-j)%ae
def FU(X W D j i:Nat):GN X W D j i (i+j)=W/ae^i%ae:=by
 unfold GN;rw[if_neg (by omega),if_neg (by omega),show i+j-j=i by omega]
theorem oQ(X W D j i k:Nat):GN X W D j (i+1) k=if k=i+j then D/ae^i%ae else GN X W D j i k:=by
 unfold GN
 by_cases e:k=i+j
 ·subst e;rw[if_neg (by omega),if_pos (by omega),if_pos rfl,show i+j-j=i by omega]
 ·rw[if_neg e]
  by_cases c:k<j
  ·rw[if_pos c,if_pos c]
  ·rw[if_neg c,if_neg c]
   by_cases c2:k<j+i
   ·rw[if_pos c2,if_pos (by omega)]
   ·rw[if_neg c2,if_neg (by omega)]
def xw(X j V k:Nat):Nat:=if k<j then X/ae^k%ae else V/ae^(k-j)%ae
def dvW(X Y j:Nat):Nat:=X/ae^(j+1)%Y*ae+X/ae^j%ae
def qgP(X Y j:Nat)(hy:0<Y):dvW X Y j<Y*ae:=OI X Y j hy
theorem QN(X Y D j k:Nat):xw X (j+1) (X/ae^(j+1)%Y) k=GN X (dvW X Y j) D j 0 k:=by
 unfold xw GN dvW
 by_cases c:k<j
 ·rw[if_pos (by omega),if_pos c]
 ·rw[if_neg c,if_neg (by omega:¬k<j+0)]
  by_cases e:k=j
  ·subst e;rw[if_pos (by omega),Nat.sub_self,Nat.pow_zero,Nat.div_one,Nat.mul_comm,Nat.mul_add_mod,Nat.mod_mod]
  ·rw[if_neg (by omega)];obtain⟨q,rfl⟩:∃q,k=j+1+q:=⟨k-j-1,by omega⟩;rw[show j+1+q-(j+1)=q by omega,show j+1+q-j=q+1 by omega];have:(X/ae^(j+1)%Y*ae+X/ae^j%ae)/ae=X/ae^(j+1)%Y:=by
    rw[Nat.mul_comm,Nat.mul_add_div (by decide),Nat.div_eq_of_lt (Nat.mod_lt _ (by decide))];omega
   have e2:ae^(q+1)=ae*ae^q:=Nat.pow_succ';rw[e2,<-Nat.div_div_eq_div_mul (X/ae^(j+1)%Y*ae+X/ae^j%ae),this]
def qdM(X Y j:Nat)(hy:0<Y):dvW X Y j/Y=X/Y/ae^j%ae:=QL X Y j hy
def qdN(X Y j:Nat)(hy:0<Y):dvW X Y j%Y=X/ae^j%Y:=QM X Y j hy
theorem OO{X Y W L g j k:Nat}(h:CJ Y W L)(hg:g=W/Y):GN X W (iO Y W L g) j (L+1) k=xw X j (W%Y) k:=by
 unfold GN xw
 by_cases c:k<j
 ·rw[if_pos c,if_pos c]
 ·rw[if_neg c,if_neg c];have hD:iO Y W L g=W%Y+ae^(L+1):=by
   unfold iO;subst hg;have:=Nat.div_add_mod W Y;rw[Nat.mul_comm] at this;omega
  have hr:=Nat.mod_lt W h.pos
  by_cases c2:k<j+(L+1)
  ·rw[if_pos c2,hD,JF (by omega)]
  ·rw[if_neg c2];have h1:ae^(L+1)<=ae^(k-j):=Nat.pow_le_pow_right (by decide) (by omega);have h2:=h.wlt;have h3:=h.hi;have h4:ae^L<=ae^(L+1):=Nat.pow_le_pow_right (by decide) (by omega);rw[Nat.div_eq_of_lt (by omega),Nat.div_eq_of_lt (by omega)]
def PQ(X Y W D L j i k:Nat):Nat:=if k<j then X/ae^k%ae else if k<j+i then(D+Y)/ae^(k-j)%ae else if k<j+(L+1) then D/ae^(k-j)%ae else W/ae^(k-j)%ae
def JG(X Y W D L j k:Nat):GN X W D j (L+1) k=PQ X Y W D L j 0 k:=by
 unfold GN PQ
 by_cases c:k<j
 ·rw[if_pos c,if_pos c]
 ·rw[if_neg c,if_neg c,if_neg (by omega:¬k<j+0)]
def FV(X Y W D L j i:Nat)(hi:i<=L):PQ X Y W D L j i (i+j)=D/ae^i%ae:=by
 unfold PQ;rw[if_neg (by omega),if_neg (by omega),if_pos (by omega),show i+j-j=i by omega]
theorem wP(X Y W D L j i k:Nat):PQ X Y W D L j (i+1) k=if k=i+j then mr D Y i%4294967296 else PQ X Y W D L j i k:=by
 rw[QH];unfold PQ
 by_cases e:k=i+j
 ·subst e;rw[if_neg (by omega),if_pos (by omega),if_pos rfl,show i+j-j=i by omega]
 ·rw[if_neg e]
  by_cases c:k<j
  ·rw[if_pos c,if_pos c]
  ·rw[if_neg c,if_neg c]
   by_cases c2:k<j+i
   ·rw[if_pos c2,if_pos (by omega)]
   ·rw[if_neg c2,if_neg (by omega)]
def Ul{X Y W L g j k:Nat}(h:CJ Y W L)(hg:g=W/Y+1):PQ X Y W (iO Y W L g) L j (L+1) k=xw X j (W%Y) k:=by
 have e:iO Y W L g+Y=iO Y W L (W/Y):=by
  have h1:=qar h (g:=g) (by omega);unfold iO;subst hg;rw[Nat.add_mul] at h1 ⊢;omega
 rw[<-OO (X:=X) (j:=j) (k:=k) h rfl,<-e];unfold PQ GN
 by_cases c:k<j
 ·rw[if_pos c,if_pos c]
 ·rw[if_neg c,if_neg c]
  by_cases c2:k<j+(L+1)
  ·rw[if_pos c2,if_pos c2]
  ·rw[if_neg c2,if_neg c2,if_neg c2]
theorem Um(D Y L:Nat)(hY:Y<ae^L):(D/ae^L%ae+mZ D Y L%4294967296)%4294967296=mr D Y L%4294967296:=by
 rw[xX,show Y/ae^L%ae=0 by rw[Nat.div_eq_of_lt hY];rfl];omega
def Un{Y W L g:Nat}(h:CJ Y W L)(h1:g<=W/Y+1)(h2:W/Y<=g)(hb:jb (W+ae^(L+1)) (g*Y) (L+1)=1):g=W/Y+1:=by
 rcases Nat.lt_or_ge (W/Y) g with c|c
 ·omega
 ·exfalso
  have e:g=W/Y:=(by omega);subst e;unfold jb at hb;have h3:=Nat.div_mul_le_self W Y;have h4:=h.wlt;rw[Nat.add_mod_right,Nat.mod_eq_of_lt h4,Nat.mod_eq_of_lt (by omega),if_neg (by omega)] at hb;cases hb
def Uo{Y W L g:Nat}(h:CJ Y W L)(h1:g<=W/Y+1)(h2:W/Y<=g)(hB:g<=4294967296)(hb:jb (W+ae^(L+1)) (g*Y) (L+1)=0):g=W/Y:=by
 rcases Nat.lt_or_ge (W/Y) g with c|c
 ·exfalso
  have e:g=W/Y+1:=(by omega);unfold jb at hb;have h3:=Nat.div_add_mod W Y;have h4:=h.wlt;have h5:=Nat.mod_lt W h.pos;have h6:g*Y<ae^(L+1):=by
   rw[mD,Nat.mul_comm];exact Nat.mul_lt_mul_of_lt_of_le h.hi hB (by decide)
  rw[Nat.add_mod_right,Nat.mod_eq_of_lt h4,Nat.mod_eq_of_lt h6] at hb;have h7:g*Y=Y*(W/Y)+Y:=by rw[e,Nat.add_mul,Nat.mul_comm,Nat.one_mul]
  rw[if_pos (by omega)] at hb;cases hb
 ·omega
theorem OQ{Y L g:Nat}(hY:Y<ae^L)(hB:g<=4294967296):gC Y g L=g*Y/ae^L%ae:=by
 have h1:gC Y g L=g*Y/ae^L:=(by unfold gC;rw[Nat.mod_eq_of_lt hY]);have h2:=GM Y g L hB;rw[h1] at h2 ⊢;exact(Nat.mod_eq_of_lt (by unfold ae at*;omega)).symm
def qgQ{n:Nat}(h0:n≠0):∃s,s<32∧(32-(Lib.bitLen (n/ae^((ag ae n).length-1)%ae):Int))=((s:Nat):Int)∧ae^(ag ae n).length<=2*(n*2^s)∧n*2^s<ae^(ag ae n).length:=by
 have hlt:=dP dh n;have hl:0<(ag ae n).length:=by
  rcases Nat.eq_zero_or_pos (ag ae n).length with h|h
  ·exact absurd ((uO dh).1 (List.eq_nil_of_length_eq_zero h)) h0
  ·exact h
 generalize hL:(ag ae n).length=L at*
 obtain⟨k,rfl⟩:∃k,L=k+1:=⟨L-1,by omega⟩;simp only[Nat.add_sub_cancel];have hk:ae^k<=n:=by
  rcases Nat.lt_or_ge n (ae^k) with h|h
  ·have:=je dh h;omega
  ·exact h
 have ht:n/ae^k<ae:=(by rw[Nat.div_lt_iff_lt_mul (bU k),Nat.mul_comm,<-mD];exact hlt);have ht0:0<n/ae^k:=Nat.div_pos hk (bU k);rw[Nat.mod_eq_of_lt ht];obtain⟨b1,b2,b3⟩:=vM (x:=n/ae^k) (Nat.lt_trans ht (by decide)) (by omega);have b4:Lib.bitLen (n/ae^k)<=32:=Lib.bitLen_le _ 32 (by omega) ht
 generalize Lib.bitLen (n/ae^k)=b at*
 refine⟨32-b,by omega,by omega,?_,?_⟩
 ·have h1:2^(b-1)*ae^k<=n:=by
   have:=Nat.mul_le_mul_right (ae^k) b2;exact Nat.le_trans this (Nat.div_mul_le_self _ _)
  have h2:=Nat.mul_le_mul_right (2^(32-b)) h1;have h3:2^(b-1)*ae^k*2^(32-b)*2=ae^(k+1):=by
   have e:2^(b-1)*2^(32-b)*2=ae:=by
    rw[<-Nat.pow_add,<-Nat.pow_succ,show(b-1+(32-b)).succ=32 by omega];rfl
   rw[mD,<-e];grind
  omega
 ·have h1:n<2^b*ae^k:=by
   exact Nat.lt_mul_of_div_lt b3 (bU k)
  have h2:=(Nat.mul_lt_mul_right (a:=2^(32-b)) (Nat.pow_pos (by omega))).2 h1;have h3:2^b*ae^k*2^(32-b)=ae^(k+1):=by
   have e:2^b*2^(32-b)=ae:=(by rw[<-Nat.pow_add,show b+(32-b)=32 by omega];rfl);rw[mD,<-e];grind
  omega
def qdO{m n s:Nat}(hs:s<32)(hlen:(ag ae n).length<=(ag ae m).length)(h1:ae^(ag ae n).length<=2*(n*2^s)):m*2^s/ae^((ag ae m).length+1-(ag ae n).length)<n*2^s:=by
 rw[Nat.div_lt_iff_lt_mul (bU _)];have h2:=dP dh m;have h3:=x8 hs;have h4:m*2^s<=m*2147483648:=Nat.mul_le_mul_left _ h3;have h5:ae^(ag ae n).length*ae^((ag ae m).length+1-(ag ae n).length)=ae^(ag ae m).length*ae:=by
  rw[<-Nat.pow_add,<-mD];congr 1;omega
 have h6:=Nat.mul_le_mul_right (ae^((ag ae m).length+1-(ag ae n).length)) h1;rw[h5,Nat.mul_assoc] at h6;have h7:ae^(ag ae m).length*ae=2*(2147483648*ae^(ag ae m).length):=(by unfold ae;omega);omega
def qdP{X Y M k:Nat}(h:X/ae^M<Y):zF X k=xw X M (X/ae^M%Y) k:=by
 unfold xw zF;rw[Nat.mod_eq_of_lt h]
 split
 ·rfl
 ·rw[Nat.div_div_eq_div_mul,<-Nat.pow_add,show M+(k-M)=k by omega]
def OT{X Y W j:Nat}(hW:dvW X Y j=W)(k:Nat):xw X (j+1) (X/ae^(j+1)%Y) (k+j)=W/ae^k%ae:=by
 rw[QN X Y 0 j,hW];unfold GN;rw[if_neg (by omega),if_neg (by omega),show k+j-j=k by omega]
def qas{X Y W j:Nat}(hW:dvW X Y j=W)(D k:Nat):xw X (j+1) (X/ae^(j+1)%Y) k=GN X W D j 0 k:=by
 rw[QN X Y D j,hW]
def CJ.whigh{Y W L:Nat}(h:CJ Y W L):2^32*(W/ae^L%ae)+W/ae^(L-1)%ae=W/ae^(L-1):=by
 have h1:=qai W (L-1);rw[show L-1+1=L by have:=h.hL;omega] at h1;have h2:W/ae^L<ae:=(by rw[Nat.div_lt_iff_lt_mul (bU L),Nat.mul_comm,<-mD];exact h.wlt);rw[Nat.mod_eq_of_lt h2,Nat.mul_comm];exact h1.symm
def CJ.ytop{Y W L:Nat}(h:CJ Y W L):zF Y (L-1)=Y/ae^(L-1):=by
 unfold zF;exact Nat.mod_eq_of_lt h.y1.2
def qi0{p q:Nat}(hp:p<4294967296)(hq:q<4294967296):p*q<18446744073709551616:=by
 have:p*q<=4294967295*4294967295:=Nat.mul_le_mul (by omega) (by omega);omega
def CO{Y W L g i:Nat}(h:CJ Y W L)(hg1:g<=W/Y+1)(hi:i<=L)(hd:W/ae^i%ae<g*Y/ae^i%ae+jb (W+ae^(L+1)) (g*Y) i):
 W/ae^i%ae+4294967296=iO Y W L g/ae^i%ae+g*Y/ae^i%ae+jb (W+ae^(L+1)) (g*Y) i∧jb (W+ae^(L+1)) (g*Y) (i+1)=1:=by
 have:=OC (i:=i) (qar h hg1) (by rw[JF hi];exact hd);rw[JF hi] at this;exact this
def CP{Y W L g i:Nat}(h:CJ Y W L)(hg1:g<=W/Y+1)(hi:i<=L)(hd:¬W/ae^i%ae<g*Y/ae^i%ae+jb (W+ae^(L+1)) (g*Y) i):
 W/ae^i%ae=iO Y W L g/ae^i%ae+g*Y/ae^i%ae+jb (W+ae^(L+1)) (g*Y) i∧jb (W+ae^(L+1)) (g*Y) (i+1)=0:=by
 have:=OD (i:=i) (qar h hg1) (by rw[JF hi];exact hd);rw[JF hi] at this;exact this
def Ur{Y W L g i:Nat}(h:CJ Y W L)(hg1:g<=W/Y+1)(hi:i<=L):IntKind.u32.wrap (((W/ae^i%ae:Nat):Int)-((jb (W+ae^(L+1)) (g*Y) i:Nat):Int)-((g*Y/ae^i%ae:Nat):Int))=((iO Y W L g/ae^i%ae:Nat):Int):=by
 rw[qcL];have hD:=aS (iO Y W L g/ae^i)
 by_cases c:W/ae^i%ae<g*Y/ae^i%ae+jb (W+ae^(L+1)) (g*Y) i
 ·have:=(CO h hg1 hi c).1
  generalize W/ae^i%ae=w at*
  generalize g*Y/ae^i%ae=p at*
  generalize iO Y W L g/ae^i%ae=d at*
  generalize jb (W+ae^(L+1)) (g*Y) i=b at*
  omega
 ·have:=(CP h hg1 hi c).1
  generalize W/ae^i%ae=w at*
  generalize g*Y/ae^i%ae=p at*
  generalize iO Y W L g/ae^i%ae=d at*
  generalize jb (W+ae^(L+1)) (g*Y) i=b at*
  omega
def lC(X Y p k:Nat):Nat:=if k<p then 0 else X/Y/ae^k%ae
theorem sW(X Y j k:Nat):lC X Y j k=if k=j then X/Y/ae^j%ae else lC X Y (j+1) k:=by
 unfold lC
 by_cases e:k=j
 ·subst e;rw[if_neg (by omega),if_pos rfl]
 ·rw[if_neg e]
  by_cases c:k<j
  ·rw[if_pos c,if_pos (by omega)]
  ·rw[if_neg c,if_neg (by omega)]
def qdQ(X Y p k:Nat):lC X Y p k<ae:=by unfold lC;split;decide;exact aS _
theorem qdR{m n s M:Nat}(h0:n≠0)(h:m*2^s/ae^M<n*2^s):val ae (row M (lC (m*2^s) (n*2^s) 0))=m/n:=by
 have e:m*2^s/(n*2^s)=m/n:=Nat.mul_div_mul_right m n (Nat.pow_pos (by omega));rw[bu (g:=fun j=>m/n/ae^j%ae) (fun j _=>by unfold lC;rw[if_neg (by omega),e]),oO ae (by decide),Nat.mod_eq_of_lt];have hp:0<n*2^s:=Nat.mul_pos (by omega) (Nat.pow_pos (by omega));rw[<-e,Nat.div_lt_iff_lt_mul hp];rw[Nat.div_lt_iff_lt_mul (bU M)] at h;rw[Nat.mul_comm (n*2^s) (ae^M)] at h;exact h
def V4(m n s k:Nat):xw (m*2^s) 0 (m*2^s/ae^0% (n*2^s)) k=m%n*2^s/ae^k%ae:=by
 unfold xw;rw[if_neg (by omega),Nat.sub_zero,Nat.pow_zero,Nat.div_one,Nat.mul_mod_mul_right]
def wQ(r i k:Nat):Nat:=if k<i then r/ae^k%ae else 0
theorem Us(r k:Nat):wQ r 0 k=0:=by simp[wQ]
theorem Ut(r i k:Nat):wQ r (i+1) k=if k=i then r/ae^i%ae else wQ r i k:=by
 unfold wQ
 by_cases e:k=i
 ·subst e;rw[if_pos (by omega),if_pos rfl]
 ·rw[if_neg e]
  by_cases c:k<i
  ·rw[if_pos c,if_pos (by omega)]
  ·rw[if_neg c,if_neg (by omega)]
def qat(r i k:Nat):wQ r i k<ae:=by unfold wQ;split;exact aS _;decide
theorem qau{m n:Nat}(h0:n≠0):val ae (row (ag ae n).length (wQ (m%n) (ag ae n).length))=m%n:=by
 rw[bu (g:=fun j=>m%n/ae^j%ae) (fun j hj=>by unfold wQ;rw[if_pos hj]),oO ae (by decide),Nat.mod_eq_of_lt];exact Nat.lt_trans (Nat.mod_lt _ (by omega)) (dP dh n)
def qdS(V i:Nat):2^32*(V/ae^(i+1)%ae)+V/ae^i%ae=V/ae^i% (ae*ae):=by
 rw[Nat.mod_mul,mD,<-Nat.div_div_eq_div_mul];show ae*_+_=_;omega
def qdT(V i:Nat):V/ae^i% (ae*ae)<18446744073709551616:=Nat.mod_lt _ (by decide)
theorem qav{r s i:Nat}(hs:s<32):r*2^s/ae^i% (ae*ae)/2^s%4294967296=r/ae^i%ae:=by
 show _%ae=_;have hp:0<2^s:=Nat.pow_pos (by omega);have e:ae*ae=2^s*(ae*2^(32-s)):=by
  have:=uV hs
  conv=>lhs;rw[this]
  rw[<-this];conv=>lhs;arg 1;rw[this]
  grind
 rw[e,Nat.mod_mul,Nat.add_mul_div_left _ _ hp,Nat.div_eq_of_lt (Nat.mod_lt _ hp),Nat.zero_add];have e2:r*2^s/ae^i/2^s=r/ae^i:=by
  rw[Nat.div_div_eq_div_mul,Nat.mul_comm (ae^i),<-Nat.div_div_eq_div_mul,Nat.mul_div_cancel _ hp]
 rw[e2,Nat.mod_mul_right_mod]
def OU(Y g i:Nat):((gC Y g i:Nat):Int)+((g*(Y/ae^i%ae):Nat):Int)=((gS Y g i:Nat):Int):=by unfold gS;omega
def FW(D Y i:Nat):((mZ D Y i:Nat):Int)+((D/ae^i%ae+Y/ae^i%ae:Nat):Int)=((mr D Y i:Nat):Int):=by rw[xX];omega
def JH{m n:Nat}(h:decide (lZ m n<0)=false):n<=m:=by
 have:=of_decide_eq_false h;unfold lZ at this;rcases Nat.lt_or_ge m n with c|c
 ·rw[if_pos c] at this;exact absurd (by decide) this
 ·exact c
def MW{m n:Nat}(h:decide (lZ m n<0)=true):m<n:=by
 have:=of_decide_eq_true h;unfold lZ at this;rcases Nat.lt_or_ge m n with c|c
 ·exact c
 ·rw[if_neg (by omega)] at this
  split at this<;>exact absurd this (by decide)
def qdU{n:Nat}(h0:n≠0):0<(ag ae n).length:=by
 rcases Nat.eq_zero_or_pos (ag ae n).length with h|h
 ·exact absurd ((uO dh).1 (List.eq_nil_of_length_eq_zero h)) h0
 ·exact h
def qdV{n:Nat}(h:(ag ae n).length=1):n<4294967296:=by have:=dP dh n;rw[h] at this;exact this
def qaw{n:Nat}(h1:(ag ae n).length=1)(hn:n<4294967296):(ag ae n)[0]? =some n:=by
 rw[jZ dh (by omega),Nat.pow_zero,Nat.div_one];exact congrArg some (Nat.mod_eq_of_lt hn)
theorem MX{z:Int}(h:(!decide (nb z.natAbs<=8))=true):(if-9223372036854775808<=z∧z<=9223372036854775807 then z else 0)=0∧decide (-9223372036854775808<=z∧z<=9223372036854775807)=false:=by
 have h1:¬nb z.natAbs<=8:=(by simpa using h);have h2:¬(-9223372036854775808<=z∧z<=9223372036854775807):=fun c=>h1 (nC (by omega))
 exact⟨if_neg h2,decide_eq_false h2⟩
theorem AO{z:Int}(h: -9223372036854775808<=z∧z<=9223372036854775807):(if-9223372036854775808<=z∧z<=9223372036854775807 then z else 0)=z∧decide (-9223372036854775808<=z∧z<=9223372036854775807)=true:=⟨if_pos h,decide_eq_true h⟩
theorem Ee{z:Int}(h:¬(-9223372036854775808<=z∧z<=9223372036854775807)):(if-9223372036854775808<=z∧z<=9223372036854775807 then z else 0)=0∧decide (-9223372036854775808<=z∧z<=9223372036854775807)=false:=⟨if_neg h,decide_eq_false h⟩
def nb8{z:Int}(h:(!decide (nb z.natAbs<=8))=false):nb z.natAbs<=8:=by simpa using h
def pq(b:Bool)(s:ByteArray):Bool:=(s==⟨#[]⟩&&b)||s.data.toList.head? ==some 0
def qi1{s:ByteArray}(h:(s==⟨#[]⟩)=false):∃x l,s.data.toList=x::l:=by
 cases hl:s.data.toList with
 |nil=>
  exfalso
  rw[xK] at h;have:s=⟨#[]⟩:=ByteArray.ext (by simpa using hl);simp[this] at h
 |cons x l=>exact⟨x,l,rfl⟩
def qax{s:ByteArray}(h:(s==⟨#[]⟩)=true):s=⟨#[]⟩:=by rw[xK] at h;simpa using h
def QO(a b:Nat):Nat.gcd b (a%b)=Nat.gcd a b:=by rw[Nat.gcd_comm a b,Nat.gcd_rec b a,Nat.gcd_comm]
def QP{a b:Int}(h:(a !=b)=false):a=b:=by simpa using h
def V5{x g:Nat}(h:x=g):(if false=true then-(x:Int) else(x:Int))=(g:Int):=by subst h;rfl
theorem qgR{b:Bool}{s:ByteArray}(he:s=⟨#[]⟩)(hb:b=true):pq b s=true:=by subst he;subst hb;unfold pq;rw[FK];rfl
theorem qgS{b:Bool}{s:ByteArray}(he:s=⟨#[]⟩)(hb:b=false):¬pq b s=true:=by subst he;subst hb;unfold pq;simp
theorem qgT{b:Bool}{s:ByteArray}{x:UInt8}{l:List UInt8}(he:s.data.toList=x::l)(h:(((x.toNat:Nat):Int)==0)=true):pq b s=true:=by
 unfold pq;rw[he];have:x=0:=UInt8.toNat_inj.1 (by have:=eq_of_beq h;show x.toNat=0;omega);subst this;simp
theorem qgU{b:Bool}{s:ByteArray}{x:UInt8}{l:List UInt8}(h0:(s==⟨#[]⟩)=false)(he:s.data.toList=x::l)(h:(((x.toNat:Nat):Int)==0)=false):¬pq b s=true:=by
 unfold pq;rw[he,h0];have:x≠0:=fun e=>by subst e;exact absurd h (by decide)
 simp[this]
end Go.Via
