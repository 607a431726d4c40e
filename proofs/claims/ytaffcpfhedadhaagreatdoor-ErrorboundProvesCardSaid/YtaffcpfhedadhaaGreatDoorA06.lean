/-
  Part 6 (chapter 32): lemmas, walks. Each theorem states its own conditions.
-/
import Derived.Shelf.SlSortCmp.WholeK
import Derived.Shelf.SlSortCmp.NoneTotal
import Derived.Test.YtaffcpfhedadhaaGreatDoorA03
import Derived.Test.YtaffcpfhedadhaaGreatDoorA04
import Derived.Test.YtaffcpfhedadhaaGreatDoorA05
set_option linter.all false
set_option maxRecDepth 20000
set_option maxHeartbeats 20000000
namespace Go.Via
variable[Mo]
open Go Go.RowKit
section
variable{P:Program}{bl:List Nat}{ops:Array Oper}{K:St->Prop}{rest:List Oper}{nt:Nat}{t:List (Nat×Value)}{L:List aG}{d:Nat}{ty:TypeId}{pos:String}{af:Array Edge}{g:Option (Nat×Bool)}{x y:Operand}
def L2{T:Nat}{i:TI}{b:aG}{a0 a1:Value}(k off:Nat)(h:aY P bl ops rest ⟨nt,(d,.agg #[a0,a1])::t,L⟩ K)(hi:eP P T i=true:=by exact wF _)(hd:Nat.blt d nt=true:=by rfl)(hg:ax ops ⟨some d,.load T x,ty,pos,af,g⟩ t=some true:=by rfl)(hk:(blank bl L)[k]? =some b:=by rfl)(hx:ev t x=some (b.at off):=by rfl)(hvs:(b.cs.drop off).take i.size=[a0,a1]:=by rfl)(hlen:Nat.beq i.size 2=true:=by rfl)(ha:i.agg=true:=by rfl):aY P bl ops (⟨some d,.load T x,ty,pos,af,g⟩::rest) ⟨nt,t,L⟩ K:=aO k off [a0,a1] hd hg hk hx hi hvs (Nat.eq_of_beq_eq_true hlen).symm (by rw[Nat.eq_of_beq_eq_true hlen];rfl) (by rw[ha];rfl) h
def L4{T:Nat}{i:TI}{b:aG}{a0 a1 a2 a3:Value}(k off:Nat)(h:aY P bl ops rest ⟨nt,(d,.agg #[a0,a1,a2,a3])::t,L⟩ K)(hi:eP P T i=true:=by exact wF _)(hd:Nat.blt d nt=true:=by rfl)(hg:ax ops ⟨some d,.load T x,ty,pos,af,g⟩ t=some true:=by rfl)(hk:(blank bl L)[k]? =some b:=by rfl)(hx:ev t x=some (b.at off):=by rfl)(hvs:(b.cs.drop off).take i.size=[a0,a1,a2,a3]:=by rfl)(hlen:Nat.beq i.size 4=true:=by rfl)(ha:i.agg=true:=by rfl):aY P bl ops (⟨some d,.load T x,ty,pos,af,g⟩::rest) ⟨nt,t,L⟩ K:=aO k off [a0,a1,a2,a3] hd hg hk hx hi hvs (Nat.eq_of_beq_eq_true hlen).symm (by rw[Nat.eq_of_beq_eq_true hlen];rfl) (by rw[ha];rfl) h
def L8{T:Nat}{i:TI}{b:aG}{a0 a1 a2 a3 a4 a5 a6 a7:Value}(k off:Nat)(h:aY P bl ops rest ⟨nt,(d,.agg #[a0,a1,a2,a3,a4,a5,a6,a7])::t,L⟩ K)(hi:eP P T i=true:=by exact wF _)(hd:Nat.blt d nt=true:=by rfl)(hg:ax ops ⟨some d,.load T x,ty,pos,af,g⟩ t=some true:=by rfl)(hk:(blank bl L)[k]? =some b:=by rfl)(hx:ev t x=some (b.at off):=by rfl)(hvs:(b.cs.drop off).take i.size=[a0,a1,a2,a3,a4,a5,a6,a7]:=by rfl)(hlen:Nat.beq i.size 8=true:=by rfl)(ha:i.agg=true:=by rfl):aY P bl ops (⟨some d,.load T x,ty,pos,af,g⟩::rest) ⟨nt,t,L⟩ K:=aO k off [a0,a1,a2,a3,a4,a5,a6,a7] hd hg hk hx hi hvs (Nat.eq_of_beq_eq_true hlen).symm (by rw[Nat.eq_of_beq_eq_true hlen];rfl) (by rw[ha];rfl) h
def L9{T:Nat}{i:TI}{b:aG}{a0 a1 a2 a3 a4 a5 a6 a7 a8:Value}(k off:Nat)(h:aY P bl ops rest ⟨nt,(d,.agg #[a0,a1,a2,a3,a4,a5,a6,a7,a8])::t,L⟩ K)(hi:eP P T i=true:=by exact wF _)(hd:Nat.blt d nt=true:=by rfl)(hg:ax ops ⟨some d,.load T x,ty,pos,af,g⟩ t=some true:=by rfl)(hk:(blank bl L)[k]? =some b:=by rfl)(hx:ev t x=some (b.at off):=by rfl)(hvs:(b.cs.drop off).take i.size=[a0,a1,a2,a3,a4,a5,a6,a7,a8]:=by rfl)(hlen:Nat.beq i.size 9=true:=by rfl)(ha:i.agg=true:=by rfl):aY P bl ops (⟨some d,.load T x,ty,pos,af,g⟩::rest) ⟨nt,t,L⟩ K:=aO k off [a0,a1,a2,a3,a4,a5,a6,a7,a8] hd hg hk hx hi hvs (Nat.eq_of_beq_eq_true hlen).symm (by rw[Nat.eq_of_beq_eq_true hlen];rfl) (by rw[ha];rfl) h
def LG{T:Nat}{i:TI}{b:aG}{a0 a1 a2 a3 a4 a5 a6 a7 a8 a9:Value}(k off:Nat)(h:aY P bl ops rest ⟨nt,(d,.agg #[a0,a1,a2,a3,a4,a5,a6,a7,a8,a9])::t,L⟩ K)(hi:eP P T i=true:=by exact wF _)(hd:Nat.blt d nt=true:=by rfl)(hg:ax ops ⟨some d,.load T x,ty,pos,af,g⟩ t=some true:=by rfl)(hk:(blank bl L)[k]? =some b:=by rfl)(hx:ev t x=some (b.at off):=by rfl)(hvs:(b.cs.drop off).take i.size=[a0,a1,a2,a3,a4,a5,a6,a7,a8,a9]:=by rfl)(hlen:Nat.beq i.size 10=true:=by rfl)(ha:i.agg=true:=by rfl):aY P bl ops (⟨some d,.load T x,ty,pos,af,g⟩::rest) ⟨nt,t,L⟩ K:=aO k off [a0,a1,a2,a3,a4,a5,a6,a7,a8,a9] hd hg hk hx hi hvs (Nat.eq_of_beq_eq_true hlen).symm (by rw[Nat.eq_of_beq_eq_true hlen];rfl) (by rw[ha];rfl) h
def ut{T:Nat}{i:TI}{b:aG}{a0 a1 a2 a3 a4 a5 a6 a7 a8 a9 a10 a11:Value}(k off:Nat)(h:aY P bl ops rest ⟨nt,(d,.agg #[a0,a1,a2,a3,a4,a5,a6,a7,a8,a9,a10,a11])::t,L⟩ K)(hi:eP P T i=true:=by exact wF _)(hd:Nat.blt d nt=true:=by rfl)(hg:ax ops ⟨some d,.load T x,ty,pos,af,g⟩ t=some true:=by rfl)(hk:(blank bl L)[k]? =some b:=by rfl)(hx:ev t x=some (b.at off):=by rfl)(hvs:(b.cs.drop off).take i.size=[a0,a1,a2,a3,a4,a5,a6,a7,a8,a9,a10,a11]:=by rfl)(hlen:Nat.beq i.size 12=true:=by rfl)(ha:i.agg=true:=by rfl):aY P bl ops (⟨some d,.load T x,ty,pos,af,g⟩::rest) ⟨nt,t,L⟩ K:=aO k off [a0,a1,a2,a3,a4,a5,a6,a7,a8,a9,a10,a11] hd hg hk hx hi hvs (Nat.eq_of_beq_eq_true hlen).symm (by rw[Nat.eq_of_beq_eq_true hlen];rfl) (by rw[ha];rfl) h
def Qs{T:Nat}{i:TI}{b:aG}{a0 a1 a2 a3 a4 a5 a6 a7 a8 a9 a10 a11 a12 a13 a14 a15:Value}(k off:Nat)(h:aY P bl ops rest ⟨nt,(d,.agg #[a0,a1,a2,a3,a4,a5,a6,a7,a8,a9,a10,a11,a12,a13,a14,a15])::t,L⟩ K)(hi:eP P T i=true:=by exact wF _)(hd:Nat.blt d nt=true:=by rfl)(hg:ax ops ⟨some d,.load T x,ty,pos,af,g⟩ t=some true:=by rfl)(hk:(blank bl L)[k]? =some b:=by rfl)(hx:ev t x=some (b.at off):=by rfl)(hvs:(b.cs.drop off).take i.size=[a0,a1,a2,a3,a4,a5,a6,a7,a8,a9,a10,a11,a12,a13,a14,a15]:=by rfl)(hlen:Nat.beq i.size 16=true:=by rfl)(ha:i.agg=true:=by rfl):aY P bl ops (⟨some d,.load T x,ty,pos,af,g⟩::rest) ⟨nt,t,L⟩ K:=aO k off [a0,a1,a2,a3,a4,a5,a6,a7,a8,a9,a10,a11,a12,a13,a14,a15] hd hg hk hx hi hvs (Nat.eq_of_beq_eq_true hlen).symm (by rw[Nat.eq_of_beq_eq_true hlen];rfl) (by rw[ha];rfl) h
def yB{T:Nat}{i:TI}{b:aG}{a0 a1 a2 a3 a4 a5 a6 a7 a8 a9 a10 a11 a12 a13 a14 a15 a16 a17 a18 a19:Value}(k off:Nat)(h:aY P bl ops rest ⟨nt,(d,.agg #[a0,a1,a2,a3,a4,a5,a6,a7,a8,a9,a10,a11,a12,a13,a14,a15,a16,a17,a18,a19])::t,L⟩ K)(hi:eP P T i=true:=by exact wF _)(hd:Nat.blt d nt=true:=by rfl)(hg:ax ops ⟨some d,.load T x,ty,pos,af,g⟩ t=some true:=by rfl)(hk:(blank bl L)[k]? =some b:=by rfl)(hx:ev t x=some (b.at off):=by rfl)(hvs:(b.cs.drop off).take i.size=[a0,a1,a2,a3,a4,a5,a6,a7,a8,a9,a10,a11,a12,a13,a14,a15,a16,a17,a18,a19]:=by rfl)(hlen:Nat.beq i.size 20=true:=by rfl)(ha:i.agg=true:=by rfl):aY P bl ops (⟨some d,.load T x,ty,pos,af,g⟩::rest) ⟨nt,t,L⟩ K:=aO k off [a0,a1,a2,a3,a4,a5,a6,a7,a8,a9,a10,a11,a12,a13,a14,a15,a16,a17,a18,a19] hd hg hk hx hi hvs (Nat.eq_of_beq_eq_true hlen).symm (by rw[Nat.eq_of_beq_eq_true hlen];rfl) (by rw[ha];rfl) h
def L36{T:Nat}{i:TI}{b:aG}{a0 a1 a2 a3 a4 a5 a6 a7 a8 a9 a10 a11 a12 a13 a14 a15 a16 a17 a18 a19 a20 a21 a22 a23 a24 a25 a26 a27 a28 a29 a30 a31 a32 a33 a34 a35:Value}(k off:Nat)(h:aY P bl ops rest ⟨nt,(d,.agg #[a0,a1,a2,a3,a4,a5,a6,a7,a8,a9,a10,a11,a12,a13,a14,a15,a16,a17,a18,a19,a20,a21,a22,a23,a24,a25,a26,a27,a28,a29,a30,a31,a32,a33,a34,a35])::t,L⟩ K)(hi:eP P T i=true:=by exact wF _)(hd:Nat.blt d nt=true:=by rfl)(hg:ax ops ⟨some d,.load T x,ty,pos,af,g⟩ t=some true:=by rfl)(hk:(blank bl L)[k]? =some b:=by rfl)(hx:ev t x=some (b.at off):=by rfl)(hvs:(b.cs.drop off).take i.size=[a0,a1,a2,a3,a4,a5,a6,a7,a8,a9,a10,a11,a12,a13,a14,a15,a16,a17,a18,a19,a20,a21,a22,a23,a24,a25,a26,a27,a28,a29,a30,a31,a32,a33,a34,a35]:=by rfl)(hlen:Nat.beq i.size 36=true:=by rfl)(ha:i.agg=true:=by rfl):aY P bl ops (⟨some d,.load T x,ty,pos,af,g⟩::rest) ⟨nt,t,L⟩ K:=aO k off [a0,a1,a2,a3,a4,a5,a6,a7,a8,a9,a10,a11,a12,a13,a14,a15,a16,a17,a18,a19,a20,a21,a22,a23,a24,a25,a26,a27,a28,a29,a30,a31,a32,a33,a34,a35] hd hg hk hx hi hvs (Nat.eq_of_beq_eq_true hlen).symm (by rw[Nat.eq_of_beq_eq_true hlen];rfl) (by rw[ha];rfl) h
def X7{T:Nat}{i:TI}{b:aG}{a0 a1 a2 a3 a4 a5 a6 a7 a8 a9 a10 a11 a12 a13 a14 a15 a16 a17 a18 a19 a20 a21 a22 a23 a24 a25 a26 a27 a28 a29 a30 a31 a32 a33 a34 a35 a36 a37:Value}(k off:Nat)(h:aY P bl ops rest ⟨nt,(d,.agg #[a0,a1,a2,a3,a4,a5,a6,a7,a8,a9,a10,a11,a12,a13,a14,a15,a16,a17,a18,a19,a20,a21,a22,a23,a24,a25,a26,a27,a28,a29,a30,a31,a32,a33,a34,a35,a36,a37])::t,L⟩ K)(hi:eP P T i=true:=by exact wF _)(hd:Nat.blt d nt=true:=by rfl)(hg:ax ops ⟨some d,.load T x,ty,pos,af,g⟩ t=some true:=by rfl)(hk:(blank bl L)[k]? =some b:=by rfl)(hx:ev t x=some (b.at off):=by rfl)(hvs:(b.cs.drop off).take i.size=[a0,a1,a2,a3,a4,a5,a6,a7,a8,a9,a10,a11,a12,a13,a14,a15,a16,a17,a18,a19,a20,a21,a22,a23,a24,a25,a26,a27,a28,a29,a30,a31,a32,a33,a34,a35,a36,a37]:=by rfl)(hlen:Nat.beq i.size 38=true:=by rfl)(ha:i.agg=true:=by rfl):aY P bl ops (⟨some d,.load T x,ty,pos,af,g⟩::rest) ⟨nt,t,L⟩ K:=aO k off [a0,a1,a2,a3,a4,a5,a6,a7,a8,a9,a10,a11,a12,a13,a14,a15,a16,a17,a18,a19,a20,a21,a22,a23,a24,a25,a26,a27,a28,a29,a30,a31,a32,a33,a34,a35,a36,a37] hd hg hk hx hi hvs (Nat.eq_of_beq_eq_true hlen).symm (by rw[Nat.eq_of_beq_eq_true hlen];rfl) (by rw[ha];rfl) h
def Al{T:Nat}{l:List Value}{mk:Nat->List aG}(n:Nat)(hz:(P.info? T).bind (·.zero)=some (.agg l.toArray))(h:∀b,aY P bl ops rest ⟨nt,(d,.pointer (some ⟨b,0,none⟩))::t,mk b⟩ K)(hd:Nat.blt d nt=true:=by rfl)(hg:ax ops ⟨some d,.alloc T,ty,pos,af,g⟩ t=some true:=by rfl)(hn:l.length=n:=by rfl)(hL:∀b,L++[⟨some b,T,l,n,true⟩]=mk b:=by intro b;first|(dsimp only[List.cons_append,List.nil_append];done)|(dsimp only[List.cons_append,List.nil_append];exact rfl)|exact rfl)(hT:Nat.blt T dC=true:=by rfl):aY P bl ops (⟨some d,.alloc T,ty,pos,af,g⟩::rest) ⟨nt,t,L⟩ K:=Vx l n mk hd hg hz rfl hn hL h hT
def Bp{T:Nat}{l:List Value}{mk:Nat->List aG}(n:Nat)(h:∀b,aY P bl ops rest ⟨nt,(d,.pointer (some ⟨b,0,none⟩))::t,mk b⟩ K)(hd:Nat.blt d nt=true:=by rfl)(hg:ax ops ⟨some d,.box T x,ty,pos,af,g⟩ t=some true:=by rfl)(hx:ev t x=some (.agg l.toArray):=by rfl)(hn:l.length=n:=by rfl)(hL:∀b,L++[⟨some b,T,l,n,true⟩]=mk b:=by intro b;first|(dsimp only[List.cons_append,List.nil_append];done)|(dsimp only[List.cons_append,List.nil_append];exact rfl)|exact rfl)(hT:Nat.blt T dC=true:=by rfl):aY P bl ops (⟨some d,.box T x,ty,pos,af,g⟩::rest) ⟨nt,t,L⟩ K:=qfA l n mk hd hg hx rfl hn hL h hT
def Sc{f:Nat}{args:List Operand}{ts:Array TypeId}{vs:List Value}{L0:List aG}{X:Type}[hX:Nonempty X]{res:X->Value}{new:X->List aG}(ks:List Nat)(hd:Nat.blt d nt=true:=by rfl)(hg:ax ops ⟨some d,.call {callee:= .value (.func f),args:=args.toArray,argTypes:=ts},ty,pos,af,g⟩ t=some true:=by rfl)(hv:args.map (ev t)=vs.map some:=by rfl):∀(hc:dh P f L0 vs X res new) (h:∀x,aY P bl ops rest ⟨nt,(d,res x)::t,L++new x⟩ K) (hp:jr L (ks.map some) L0:=by repeat (first|exact trivial|refine⟨⟨_,rfl,aG.le_refl _⟩,?_⟩|refine⟨⟨_,rfl,mX⟩,?_⟩)) (ho:(L0.all fun b=> !b.own)=true:=by rfl) (hn:False∨∀x,∀b∈new x,b.own=true:=by first|exact .inr fun x b hb=>by rw[List.mem_singleton.1 hb]|exact .inr fun x b hb=>by rcases List.mem_cons.1 hb with h|h;rw[h];rw[List.mem_singleton.1 h]),aY P bl ops (⟨some d,.call {callee:= .value (.func f),args:=args.toArray,argTypes:=ts},ty,pos,af,g⟩::rest) ⟨nt,t,L⟩ K:=fun hc h hp ho hn=>iM vs ks hd hg hv hc hp ho hn h
def Sd{f:Nat}{args:List Operand}{ts:Array TypeId}{vs:List Value}{L0:List aG}{v:Value}(ks:List Nat)(hd:Nat.blt d nt=true:=by rfl)(hg:ax ops ⟨some d,.call {callee:= .value (.func f),args:=args.toArray,argTypes:=ts},ty,pos,af,g⟩ t=some true:=by rfl)(hv:args.map (ev t)=vs.map some:=by rfl):∀(hc:dh P f L0 vs Unit (fun _=>v) (fun _=>[])) (h:aY P bl ops rest ⟨nt,(d,v)::t,L⟩ K) (hp:jr L (ks.map some) L0:=by repeat (first|exact trivial|refine⟨⟨_,rfl,aG.le_refl _⟩,?_⟩|refine⟨⟨_,rfl,mX⟩,?_⟩)) (ho:(L0.all fun b=> !b.own)=true:=by rfl),aY P bl ops (⟨some d,.call {callee:= .value (.func f),args:=args.toArray,argTypes:=ts},ty,pos,af,g⟩::rest) ⟨nt,t,L⟩ K:=fun hc h hp ho=>iq vs ks hd hg hv hc hp ho h
def Dv{op:BinOp}{T U:Nat}{k:IntKind}{m n:Int}(r:Int)(hd:Nat.blt d nt=true:=by rfl)(hg:ax ops ⟨some d,.binOp op T x y U,ty,pos,af,g⟩ t=some true:=by rfl)(hx:ev t x=some (.int k m):=by rfl)(hy:ev t y=some (.int k n):=by rfl):∀(hr:(match op with| .quo=>some (k.wrap (m.tdiv n))| .rem=>some (m.tmod n)|_=>none)=some r) (h:aY P bl ops rest ⟨nt,(d,.int k r)::t,L⟩ K) (hn:n≠0:=by omega),aY P bl ops (⟨some d,.binOp op T x y U,ty,pos,af,g⟩::rest) ⟨nt,t,L⟩ K:=fun hr h hn=>qiF hd hg hx hy hn hr h
def Aq{op:BinOp}{T U:Nat}{k:IntKind}{m n:Int}(r:Int)(hd:Nat.blt d nt=true:=by rfl)(hg:ax ops ⟨some d,.binOp op T x y U,ty,pos,af,g⟩ t=some true:=by rfl)(hx:ev t x=some (.int k m):=by rfl)(hy:ev t y=some (.int k n):=by rfl):∀(hr:(match op with| .add=>some (k.wrap (m+n))| .sub=>some (k.wrap (m-n))| .mul=>some (k.wrap (m*n))|_=>none)=some r) (h:aY P bl ops rest ⟨nt,(d,.int k r)::t,L⟩ K),aY P bl ops (⟨some d,.binOp op T x y U,ty,pos,af,g⟩::rest) ⟨nt,t,L⟩ K:=fun hr h=>Vy hd hg hx hy hr h
def Sv{op:BinOp}{T U:Nat}{k k':IntKind}{m n:Int}(r:Int)(hd:Nat.blt d nt=true:=by rfl)(hg:ax ops ⟨some d,.binOp op T x y U,ty,pos,af,g⟩ t=some true:=by rfl)(hx:ev t x=some (.int k m):=by rfl)(hy:ev t y=some (.int k' n):=by rfl):∀(hr:(match op with| .shl=>some (k.wrap (m*2^(min n.toNat k.bits)))| .shr=>some (m.fdiv (2^(min n.toNat k.bits)))|_=>none)=some r) (h:aY P bl ops rest ⟨nt,(d,.int k r)::t,L⟩ K) (hn:¬n<0:=by omega),aY P bl ops (⟨some d,.binOp op T x y U,ty,pos,af,g⟩::rest) ⟨nt,t,L⟩ K:=fun hr h hn=>qcT hd hg hx hy hn hr h
def Cv{S D:Nat}{k k':IntKind}{n:Int}(r:Int)(hS:P.underlying S=some (.int k))(hD:P.underlying D=some (.int k'))(hd:Nat.blt d nt=true:=by rfl)(hg:ax ops ⟨some d,.convert S D x,ty,pos,af,g⟩ t=some true:=by rfl)(hx:ev t x=some (.int k n):=by rfl):∀(hr:k'.wrap n=r) (h:aY P bl ops rest ⟨nt,(d,.int k' r)::t,L⟩ K),aY P bl ops (⟨some d,.convert S D x,ty,pos,af,g⟩::rest) ⟨nt,t,L⟩ K:=fun hr h=>qgp hS hD hd hg hx hr h
def Lo{T:Nat}{b:aG}{v:Value}(k off:Nat)(hi:eP P T ⟨false,1,[]⟩=true:=by exact wF _)(hd:Nat.blt d nt=true:=by rfl)(hg:ax ops ⟨some d,.load T x,ty,pos,af,g⟩ t=some true:=by rfl)(hk:(blank bl L)[k]? =some b:=by rfl)(hx:ev t x=some (b.at off):=by rfl):∀(hv:b.cs[off]? =some v) (h:aY P bl ops rest ⟨nt,(d,v)::t,L⟩ K),aY P bl ops (⟨some d,.load T x,ty,pos,af,g⟩::rest) ⟨nt,t,L⟩ K:=fun hv h=>OO k off hi hd hg hk hx hv h
def Fg{T:Nat}{j:Nat}{i:TI}{gg:Nat}(off fo:Nat){fs:Nat}{off':Nat}(h:aY P bl ops rest ⟨nt,(d,.pointer (some ⟨gg,off',none⟩))::t,L⟩ K)(hd:Nat.blt d nt=true:=by rfl)(hg:ax ops ⟨some d,.fieldAddr T x j,ty,pos,af,g⟩ t=some true:=by rfl)(hx:ev t x=some (.pointer (some ⟨gg,off,none⟩)):=by rfl)(hi:eP P T i=true:=by exact wF _)(hf:i.flds[j]? =some (fo,fs+1):=by rfl)(ho:off+fo=off':=by rfl):aY P bl ops (⟨some d,.fieldAddr T x j,ty,pos,af,g⟩::rest) ⟨nt,t,L⟩ K:=yF off fo hd hg hx hi hf ho h
def Bu{T:Nat}{parts:List (Nat×Operand)}(ps:List (Nat×Value)){v:Value}(hd:Nat.blt d nt=true:=by rfl)(hg:ax ops ⟨some d,.build T parts.toArray,ty,pos,af,g⟩ t=some true:=by rfl)(hx:parts.map (fun p=>(p.1,ev t p.2))=ps.map (fun p=>(p.1,some p.2)):=by rfl):∀(hb:∀w,(Instr.build T ps.toArray).run P w= .ok v w) (h:aY P bl ops rest ⟨nt,(d,v)::t,L⟩ K),aY P bl ops (⟨some d,.build T parts.toArray,ty,pos,af,g⟩::rest) ⟨nt,t,L⟩ K:=fun hb h=>qcQ ps hd hg hx hb h
def Bl{T n:Nat}{parts:List (Nat×Operand)}(nn:Nat)(ps:List (Nat×Value)){e:Nat}{cs:List Value}{mk:Nat->List aG}(hd:Nat.blt d nt=true:=by rfl)(hg:ax ops ⟨some d,.buildSlice T n parts.toArray,ty,pos,af,g⟩ t=some true:=by rfl)(hx:parts.map (fun p=>(p.1,ev t p.2))=ps.map (fun p=>(p.1,some p.2)):=by rfl):∀(hb:∀w,(Instr.buildSlice T n ps.toArray).run P w= .ok (.slice (some ⟨w.heap.size,0,none⟩) n n) (w.alloc (.cells cs.toArray e))) (h:∀b,aY P bl ops rest ⟨nt,(d,az (some b) 0 n n)::t,mk b⟩ K) (hnn:cs.length=nn:=by rfl) (hL:∀b,L++[⟨some b,e,cs,nn,true⟩]=mk b:=by intro b;first|(dsimp only[List.cons_append,List.nil_append];done)|(dsimp only[List.cons_append,List.nil_append];exact rfl)|exact rfl) (hem:Nat.blt e dC=true:=by rfl),aY P bl ops (⟨some d,.buildSlice T n parts.toArray,ty,pos,af,g⟩::rest) ⟨nt,t,L⟩ K:=fun hb h hnn hL hem=>OQ ps mk hd hg hx hb hnn hL h hem
def S1{T:Nat}{b:aG}{v:Value}(k off:Nat)(L':List aG)(cs':List Value)(hbl:FM bl=false:=by rfl)(hi:eP P T ⟨false,1,[]⟩=true:=by exact wF _)(hg:ax ops ⟨none,.store T x y,ty,pos,af,g⟩ t=some true:=by rfl)(hk:L[k]? =some b:=by rfl)(ho:b.own=true:=by rfl)(hbb:b.base.isSome=true:=by rfl)(hx:ev t x=some (b.at off):=by rfl)(hy:ev t y=some v:=by rfl)(hv:v.cells= #[v]:=by rfl)(h1:v.oneCell'=true:=by rfl):∀(hfit:off<b.cs.length) (hcs:b.cs.set off v=cs') (h:aY P bl ops rest ⟨nt,t,L'⟩ K) (hL:L.set k {b with cs:=cs'}=L':=by rfl),aY P bl ops (⟨none,.store T x y,ty,pos,af,g⟩::rest) ⟨nt,t,L⟩ K:=fun hfit hcs h hL=>Zz hbl k off L' cs' hi hg hk ho hbb hx hy hv h1 hfit hcs hL h
def Qa{T e s:Nat}{z:Value}{b:aG}{len cap b2o n2 c2:Nat}{b2:aG}(k k2:Nat)(mk:AR (len+n2) s->List aG)(hT:P.underlying T=some (.slice e))(hi:LK P e s z)(hd:Nat.blt d nt=true:=by rfl)(hg:ax ops ⟨some d,.call {callee:= .builtin .append,args:= #[x,y],argTypes:= #[T,T]},ty,pos,af,g⟩ t=some true:=by rfl)(hk:L[k]? =some b:=by rfl)(ho:b.own=true:=by rfl)(he:b.e=e:=by rfl)(hx:ev t x=some (az b.base 0 len cap):=by rfl)(hk2:L[k2]? =some b2:=by rfl)(hb2:b2.base=some b2o:=by rfl)(hy:ev t y=some (az (some b2o) 0 n2 c2):=by rfl)(hs:Nat.blt 0 s=true:=by rfl)(hzs:z.cells.size=s:=by rfl)(hpos:Nat.blt 0 n2=true:=by rfl):∀(hlen:b.cs.length=len*s) (hcap:len<=cap) (hn:cap*s<=b.n) (h1:∀v∈b2.cs,v.oneCell'=true) (h:∀r:AR (len+n2) s,aY P bl ops rest ⟨nt,(d,az (some r.g) 0 (len+n2) r.cap)::t,mk r⟩ K) (hlen2:b2.cs.length=n2*s:=by rfl) (hmax:len+n2<=17179869184:=by omega) (hL:∀r,L.set k ⟨some r.g,e,b.cs++b2.cs,r.n,true⟩=mk r:=by exact fun _=>rfl),aY P bl ops (⟨some d,.call {callee:= .builtin .append,args:= #[x,y],argTypes:= #[T,T]},ty,pos,af,g⟩::rest) ⟨nt,t,L⟩ K:=fun hlen hcap hn h1 h hlen2 hmax hL=>fH k k2 mk hT hi hd hg hk ho he hx hk2 hb2 hy hs hzs hpos hlen hcap hn hlen2 h1 hmax hL h
def Qo{T e s:Nat}{zz:Value}{b:aG}{len cap off2 n2 c2:Nat}{b2:aG}(k k2:Nat)(news:List Value)(mk:OR (len+n2) s->List aG)(hT:P.underlying T=some (.slice e))(hi:LK P e s zz)(hd:Nat.blt d nt=true:=by rfl)(hg:ax ops ⟨some d,.call {callee:= .builtin .append,args:= #[x,y],argTypes:= #[T,T]},ty,pos,af,g⟩ t=some true:=by rfl)(hk:L[k]? =some b:=by rfl)(ho:b.own=true:=by rfl)(he:b.e=e:=by rfl)(hx:ev t x=some (az b.base 0 len cap):=by rfl)(hk2:L[k2]? =some b2:=by rfl)(hy:ev t y=some (az b2.base off2 n2 c2):=by rfl)(hs:Nat.blt 0 s=true:=by rfl)(hzs:zz.cells.size=s:=by rfl):∀(hlen:b.cs.length=len*s) (hcap:len<=cap) (hn:cap*s<=b.n) (hb2:n2=0∨∃g,b2.base=some g) (hnew:(b2.cs.drop off2).take (n2*s)=news) (hlen2:news.length=n2*s) (h1:∀v∈news,v.oneCell'=true) (h:∀r:OR (len+n2) s,aY P bl ops rest ⟨nt,(d,az r.b 0 (len+n2) r.cap)::t,mk r⟩ K) (hmax:len+n2<=17179869184:=by omega) (hL:∀r,L.set k ⟨r.b,e,b.cs++news,r.n,true⟩=mk r:=by exact fun _=>rfl),aY P bl ops (⟨some d,.call {callee:= .builtin .append,args:= #[x,y],argTypes:= #[T,T]},ty,pos,af,g⟩::rest) ⟨nt,t,L⟩ K:=fun hlen hcap hn hb2 hnew hlen2 h1 h hmax hL=>fK k k2 news mk hT hi hd hg hk ho he hx hk2 hy hs hzs hlen hcap hn hb2 hnew hlen2 h1 hmax hL h
def Iz{T e N:Nat}{k:IntKind}{i:Int}{gg:Nat}{off:Nat}{inf:TI}(off':Nat)(hT:P.underlying T=some (.array N e))(hinf:eP P e inf=true)(h:aY P bl ops rest ⟨nt,(d,.pointer (some ⟨gg,off',none⟩))::t,L⟩ K)(hd:Nat.blt d nt=true:=by rfl)(hg:ax ops ⟨some d,.indexAddr T x y,ty,pos,af,g⟩ t=some true:=by rfl)(hx:ev t x=some (.pointer (some ⟨gg,off,none⟩)):=by rfl)(hy:ev t y=some (.int k i):=by rfl)(h0:0<=i:=by omega)(h1:i<N:=by omega)(ho:off+i.toNat*inf.size=off':=by first|rfl|(show _+Int.toNat _*1=_;first|rfl|omega)):aY P bl ops (⟨some d,.indexAddr T x y,ty,pos,af,g⟩::rest) ⟨nt,t,L⟩ K:=tY off' hT hinf hd hg hx hy h0 h1 ho h
def qgT{v:Value}{l cs:List Value}{n:Nat}(hv:v= .agg l.toArray)(h1:Nat.beq l.length n=true)(h2:Nat.beq l.length cs.length=true):cs.take 0++v.cells.toList++cs.drop (0+n)=l:=by have h3:=Nat.eq_of_beq_eq_true h1;have h4:=Nat.eq_of_beq_eq_true h2;subst hv;show[]++l++cs.drop (0+n)=l;rw[<-h3,h4];simp
def qgU{v:Value}{l cs cs':List Value}{off n:Nat}(hv:v= .agg l.toArray)(h:cs.take off++l++cs.drop (off+n)=cs'):cs.take off++v.cells.toList++cs.drop (off+n)=cs':=by subst hv;exact h
def Ss{T:Nat}{i:TI}{gg e n:Nat}{cs cs':List Value}{v:Value}{L':List aG}{off:Nat}(k:Nat)(h:aY P bl ops rest ⟨nt,t,L'⟩ K)(hbl:FM bl=false:=by rfl)(hg:ax ops ⟨none,.store T x y,ty,pos,af,g⟩ t=some true:=by rfl)(hk:L[k]? =some ⟨some gg,e,cs,n,true⟩:=by rfl)(hx:ev t x=some (.pointer (some ⟨gg,off,none⟩)):=by rfl)(hy:ev t y=some v:=by rfl)(hi:eP P T i=true:=by exact wF _)(hsz:v.cells.size=i.size:=by rfl)(hfit:Nat.ble (off+i.size) cs.length=true:=by rfl)(h1:(v.cells.toList.all fun u=>u.oneCell')=true:=by rfl)(hcs:cs.take off++v.cells.toList++cs.drop (off+i.size)=cs':=by first|exact qgT rfl rfl rfl|exact qgU rfl (by first|(dsimp only[List.take_succ_cons,List.take_zero,List.drop_succ_cons,List.drop_zero,List.cons_append,List.nil_append,List.append_nil,Value.cells];done)|(dsimp only[List.take_succ_cons,List.take_zero,List.drop_succ_cons,List.drop_zero,List.cons_append,List.nil_append,List.append_nil,Value.cells];exact rfl))|(dsimp only[List.take_succ_cons,List.take_zero,List.drop_succ_cons,List.drop_zero,List.cons_append,List.nil_append,List.append_nil,Value.cells];done)|(dsimp only[List.take_succ_cons,List.take_zero,List.drop_succ_cons,List.drop_zero,List.cons_append,List.nil_append,List.append_nil,Value.cells];exact rfl)|exact rfl)(hL:L.set k ⟨some gg,e,cs',n,true⟩=L':=by first|(dsimp only[List.set_cons_zero,List.set_cons_succ];done)|(dsimp only[List.set_cons_zero,List.set_cons_succ];exact rfl)|exact rfl)(hpos:Nat.blt 0 i.size=true:=by rfl):aY P bl ops (⟨none,.store T x y,ty,pos,af,g⟩::rest) ⟨nt,t,L⟩ K:=ry hbl k off L' cs' hg hk hx hy hi hsz hfit h1 hcs hL h hpos
end
section
variable{P:Program}{f:Nat}{fn:Func}{c:Code}{v:Value}{L:List aG}{X:Type}{res:X->Value}{new:X->List aG}
def pB0(nt:Nat)(hf:P.funcs[f]? =some fn)(h:∀w:World,At (Bs.of w) ⟨nt,[],[]⟩ (c.wp P (bodyPost P fn fun e w'=>e= .returned v∧fP w.heap.size w w')))(hp:ja P f=true:=by kernel_rfl)(hb:fn.body=some c:=by rfl)(hnt:fn.ntmps=nt:=by rfl)(hn:Nat.ble 0 fn.ntmps=true:=by rfl):aP P f #[] v:=⟨hp,fun w=>cB0 nt hf (bf.nil w) (h w) hb hnt hn⟩
def sB0(nt:Nat)(hf:P.funcs[f]? =some fn)(h:∀w:World,bf (Bs.of w) L w->At (Bs.of w) ⟨nt,[],L⟩ (c.wp P (bodyPost P fn fun e w'=>∃x,e= .returned (res x)∧bf (Bs.of w) (new x) w')))(hp:ja P f=true:=by kernel_rfl)(hb:fn.body=some c:=by rfl)(hnt:fn.ntmps=nt:=by rfl)(hn:Nat.ble 0 fn.ntmps=true:=by rfl):dh P f L [] X res new:=⟨hp,fun w hL0=>cB0 nt hf hL0 (h w hL0) hb hnt hn⟩
def xJ{v0:Value}(nt:Nat)(hf:P.funcs[f]? =some fn)(h:∀w:World,At (Bs.of w) ⟨nt,[(0,v0)],[]⟩ (c.wp P (bodyPost P fn fun e w'=>e= .returned v∧fP w.heap.size w w')))(hp:ja P f=true:=by kernel_rfl)(hb:fn.body=some c:=by rfl)(hnt:fn.ntmps=nt:=by rfl)(hn:Nat.ble 1 fn.ntmps=true:=by rfl):aP P f #[v0] v:=⟨hp,fun w=>cB1 nt hf (bf.nil w) (h w) hb hnt hn⟩
def Md{v0:Value}(nt:Nat)(hf:P.funcs[f]? =some fn)(h:∀w:World,bf (Bs.of w) L w->At (Bs.of w) ⟨nt,[(0,v0)],L⟩ (c.wp P (bodyPost P fn fun e w'=>∃x,e= .returned (res x)∧bf (Bs.of w) (new x) w')))(hp:ja P f=true:=by kernel_rfl)(hb:fn.body=some c:=by rfl)(hnt:fn.ntmps=nt:=by rfl)(hn:Nat.ble 1 fn.ntmps=true:=by rfl):dh P f L [v0] X res new:=⟨hp,fun w hL0=>cB1 nt hf hL0 (h w hL0) hb hnt hn⟩
def oG{v0 v1:Value}(nt:Nat)(hf:P.funcs[f]? =some fn)(h:∀w:World,At (Bs.of w) ⟨nt,[(0,v0),(1,v1)],[]⟩ (c.wp P (bodyPost P fn fun e w'=>e= .returned v∧fP w.heap.size w w')))(hp:ja P f=true:=by kernel_rfl)(hb:fn.body=some c:=by rfl)(hnt:fn.ntmps=nt:=by rfl)(hn:Nat.ble 2 fn.ntmps=true:=by rfl):aP P f #[v0,v1] v:=⟨hp,fun w=>YZ nt hf (bf.nil w) (h w) hb hnt hn⟩
def V3{v0 v1:Value}(nt:Nat)(hf:P.funcs[f]? =some fn)(h:∀w:World,bf (Bs.of w) L w->At (Bs.of w) ⟨nt,[(0,v0),(1,v1)],L⟩ (c.wp P (bodyPost P fn fun e w'=>∃x,e= .returned (res x)∧bf (Bs.of w) (new x) w')))(hp:ja P f=true:=by kernel_rfl)(hb:fn.body=some c:=by rfl)(hnt:fn.ntmps=nt:=by rfl)(hn:Nat.ble 2 fn.ntmps=true:=by rfl):dh P f L [v0,v1] X res new:=⟨hp,fun w hL0=>YZ nt hf hL0 (h w hL0) hb hnt hn⟩
def pB3{v0 v1 v2:Value}(nt:Nat)(hf:P.funcs[f]? =some fn)(h:∀w:World,At (Bs.of w) ⟨nt,[(0,v0),(1,v1),(2,v2)],[]⟩ (c.wp P (bodyPost P fn fun e w'=>e= .returned v∧fP w.heap.size w w')))(hp:ja P f=true:=by kernel_rfl)(hb:fn.body=some c:=by rfl)(hnt:fn.ntmps=nt:=by rfl)(hn:Nat.ble 3 fn.ntmps=true:=by rfl):aP P f #[v0,v1,v2] v:=⟨hp,fun w=>ZI nt hf (bf.nil w) (h w) hb hnt hn⟩
def sB3{v0 v1 v2:Value}(nt:Nat)(hf:P.funcs[f]? =some fn)(h:∀w:World,bf (Bs.of w) L w->At (Bs.of w) ⟨nt,[(0,v0),(1,v1),(2,v2)],L⟩ (c.wp P (bodyPost P fn fun e w'=>∃x,e= .returned (res x)∧bf (Bs.of w) (new x) w')))(hp:ja P f=true:=by kernel_rfl)(hb:fn.body=some c:=by rfl)(hnt:fn.ntmps=nt:=by rfl)(hn:Nat.ble 3 fn.ntmps=true:=by rfl):dh P f L [v0,v1,v2] X res new:=⟨hp,fun w hL0=>ZI nt hf hL0 (h w hL0) hb hnt hn⟩
def pB4{v0 v1 v2 v3:Value}(nt:Nat)(hf:P.funcs[f]? =some fn)(h:∀w:World,At (Bs.of w) ⟨nt,[(0,v0),(1,v1),(2,v2),(3,v3)],[]⟩ (c.wp P (bodyPost P fn fun e w'=>e= .returned v∧fP w.heap.size w w')))(hp:ja P f=true:=by kernel_rfl)(hb:fn.body=some c:=by rfl)(hnt:fn.ntmps=nt:=by rfl)(hn:Nat.ble 4 fn.ntmps=true:=by rfl):aP P f #[v0,v1,v2,v3] v:=⟨hp,fun w=>cB4 nt hf (bf.nil w) (h w) hb hnt hn⟩
def pB5{v0 v1 v2 v3 v4:Value}(nt:Nat)(hf:P.funcs[f]? =some fn)(h:∀w:World,At (Bs.of w) ⟨nt,[(0,v0),(1,v1),(2,v2),(3,v3),(4,v4)],[]⟩ (c.wp P (bodyPost P fn fun e w'=>e= .returned v∧fP w.heap.size w w')))(hp:ja P f=true:=by kernel_rfl)(hb:fn.body=some c:=by rfl)(hnt:fn.ntmps=nt:=by rfl)(hn:Nat.ble 5 fn.ntmps=true:=by rfl):aP P f #[v0,v1,v2,v3,v4] v:=⟨hp,fun w=>cB5 nt hf (bf.nil w) (h w) hb hnt hn⟩
end
def pR{L:List aG}{k:Nat}{b:aG}(h:L[k]? =some b:=by rfl):∃b',L[k]? =some b'∧b.le b':=⟨_,h,aG.le_refl _⟩
def pS{L:List aG}{k:Nat}{base:Option Nat}{e:TypeId}{cs:List Value}{n:Nat}{o:Bool}(h:L[k]? =some ⟨base,e,cs,n,o⟩:=by rfl):∃b',L[k]? =some b'∧aG.le ⟨base,e,cs,n,false⟩ b':=⟨_,h,mX⟩
section
variable{P:Program}{B:Bs}{fn:Func}{R:Ending->World->Prop}{s:St}
def E0{w0:World}{d:Nat}{v v':Value}(h:Ending.returned v= .returned v')(hfn:fn.results= #[.tmp d]:=by rfl)(hl:look s.t d=some v:=by rfl):At (Bs.of w0) s (bodyPost P fn (fun e w'=>e= .returned v'∧fP w0.heap.size w0 w') .ret):=E1 (fun w hL=>⟨h,hL.below⟩) hfn hl
def Ec2{p T:Nat}{b:aG}{i:TI}{a0 a1:Value}(k:Nat)(hR:∀w,bf B s.L w->R (.returned (.agg #[a0,a1])) w)(hfn:fn.results= #[.cell p T]:=by rfl)(hk:s.L[k]? =some b:=by rfl)(hx:look s.t p=some (b.at 0):=by rfl)(hi:eP P T i=true:=by exact wF _)(hvs:b.cs.take i.size=[a0,a1]:=by rfl)(hn:Nat.beq i.size 2=true:=by rfl)(ha:i.agg=true:=by rfl)(hD:B.D=[]:=by first|rfl|assumption):At B s (bodyPost P fn R .ret):=aH hfn (bu k hk hx hi hvs (Nat.eq_of_beq_eq_true hn).symm (by rw[Nat.eq_of_beq_eq_true hn];decide) (by rw[ha];rfl)) hR hD
def Qu{p T:Nat}{b:aG}{i:TI}{a0 a1 v':Value}{w0:World}(k:Nat)(h:Ending.returned (.agg #[a0,a1])= .returned v')(hfn:fn.results= #[.cell p T]:=by rfl)(hk:s.L[k]? =some b:=by rfl)(hx:look s.t p=some (b.at 0):=by rfl)(hi:eP P T i=true:=by exact wF _)(hvs:b.cs.take i.size=[a0,a1]:=by rfl)(hn:Nat.beq i.size 2=true:=by rfl)(ha:i.agg=true:=by rfl):At (Bs.of w0) s (bodyPost P fn (fun e w'=>e= .returned v'∧fP w0.heap.size w0 w') .ret):=Ec2 k (fun w hL=>⟨h,hL.below⟩) hfn hk hx hi hvs hn ha
def Ec4{p T:Nat}{b:aG}{i:TI}{a0 a1 a2 a3:Value}(k:Nat)(hR:∀w,bf B s.L w->R (.returned (.agg #[a0,a1,a2,a3])) w)(hfn:fn.results= #[.cell p T]:=by rfl)(hk:s.L[k]? =some b:=by rfl)(hx:look s.t p=some (b.at 0):=by rfl)(hi:eP P T i=true:=by exact wF _)(hvs:b.cs.take i.size=[a0,a1,a2,a3]:=by rfl)(hn:Nat.beq i.size 4=true:=by rfl)(ha:i.agg=true:=by rfl)(hD:B.D=[]:=by first|rfl|assumption):At B s (bodyPost P fn R .ret):=aH hfn (bu k hk hx hi hvs (Nat.eq_of_beq_eq_true hn).symm (by rw[Nat.eq_of_beq_eq_true hn];decide) (by rw[ha];rfl)) hR hD
def G6{p T:Nat}{b:aG}{i:TI}{a0 a1 a2 a3 v':Value}{w0:World}(k:Nat)(h:Ending.returned (.agg #[a0,a1,a2,a3])= .returned v')(hfn:fn.results= #[.cell p T]:=by rfl)(hk:s.L[k]? =some b:=by rfl)(hx:look s.t p=some (b.at 0):=by rfl)(hi:eP P T i=true:=by exact wF _)(hvs:b.cs.take i.size=[a0,a1,a2,a3]:=by rfl)(hn:Nat.beq i.size 4=true:=by rfl)(ha:i.agg=true:=by rfl):At (Bs.of w0) s (bodyPost P fn (fun e w'=>e= .returned v'∧fP w0.heap.size w0 w') .ret):=Ec4 k (fun w hL=>⟨h,hL.below⟩) hfn hk hx hi hvs hn ha
def Ec9{p T:Nat}{b:aG}{i:TI}{a0 a1 a2 a3 a4 a5 a6 a7 a8:Value}(k:Nat)(hR:∀w,bf B s.L w->R (.returned (.agg #[a0,a1,a2,a3,a4,a5,a6,a7,a8])) w)(hfn:fn.results= #[.cell p T]:=by rfl)(hk:s.L[k]? =some b:=by rfl)(hx:look s.t p=some (b.at 0):=by rfl)(hi:eP P T i=true:=by exact wF _)(hvs:b.cs.take i.size=[a0,a1,a2,a3,a4,a5,a6,a7,a8]:=by rfl)(hn:Nat.beq i.size 9=true:=by rfl)(ha:i.agg=true:=by rfl)(hD:B.D=[]:=by first|rfl|assumption):At B s (bodyPost P fn R .ret):=aH hfn (bu k hk hx hi hvs (Nat.eq_of_beq_eq_true hn).symm (by rw[Nat.eq_of_beq_eq_true hn];decide) (by rw[ha];rfl)) hR hD
def Ed9{p T:Nat}{b:aG}{i:TI}{a0 a1 a2 a3 a4 a5 a6 a7 a8 v':Value}{w0:World}(k:Nat)(h:Ending.returned (.agg #[a0,a1,a2,a3,a4,a5,a6,a7,a8])= .returned v')(hfn:fn.results= #[.cell p T]:=by rfl)(hk:s.L[k]? =some b:=by rfl)(hx:look s.t p=some (b.at 0):=by rfl)(hi:eP P T i=true:=by exact wF _)(hvs:b.cs.take i.size=[a0,a1,a2,a3,a4,a5,a6,a7,a8]:=by rfl)(hn:Nat.beq i.size 9=true:=by rfl)(ha:i.agg=true:=by rfl):At (Bs.of w0) s (bodyPost P fn (fun e w'=>e= .returned v'∧fP w0.heap.size w0 w') .ret):=Ec9 k (fun w hL=>⟨h,hL.below⟩) hfn hk hx hi hvs hn ha
def qiZ{p T:Nat}{b:aG}{i:TI}{a0 a1 a2 a3 a4 a5 a6 a7 a8 a9:Value}(k:Nat)(hR:∀w,bf B s.L w->R (.returned (.agg #[a0,a1,a2,a3,a4,a5,a6,a7,a8,a9])) w)(hfn:fn.results= #[.cell p T]:=by rfl)(hk:s.L[k]? =some b:=by rfl)(hx:look s.t p=some (b.at 0):=by rfl)(hi:eP P T i=true:=by exact wF _)(hvs:b.cs.take i.size=[a0,a1,a2,a3,a4,a5,a6,a7,a8,a9]:=by rfl)(hn:Nat.beq i.size 10=true:=by rfl)(ha:i.agg=true:=by rfl)(hD:B.D=[]:=by first|rfl|assumption):At B s (bodyPost P fn R .ret):=aH hfn (bu k hk hx hi hvs (Nat.eq_of_beq_eq_true hn).symm (by rw[Nat.eq_of_beq_eq_true hn];decide) (by rw[ha];rfl)) hR hD
def qi0{p T:Nat}{b:aG}{i:TI}{a0 a1 a2 a3 a4 a5 a6 a7 a8 a9 v':Value}{w0:World}(k:Nat)(h:Ending.returned (.agg #[a0,a1,a2,a3,a4,a5,a6,a7,a8,a9])= .returned v')(hfn:fn.results= #[.cell p T]:=by rfl)(hk:s.L[k]? =some b:=by rfl)(hx:look s.t p=some (b.at 0):=by rfl)(hi:eP P T i=true:=by exact wF _)(hvs:b.cs.take i.size=[a0,a1,a2,a3,a4,a5,a6,a7,a8,a9]:=by rfl)(hn:Nat.beq i.size 10=true:=by rfl)(ha:i.agg=true:=by rfl):At (Bs.of w0) s (bodyPost P fn (fun e w'=>e= .returned v'∧fP w0.heap.size w0 w') .ret):=qiZ k (fun w hL=>⟨h,hL.below⟩) hfn hk hx hi hvs hn ha
def qkP{p T:Nat}{b:aG}{i:TI}{a0 a1 a2 a3 a4 a5 a6 a7 a8 a9 a10 a11:Value}(k:Nat)(hR:∀w,bf B s.L w->R (.returned (.agg #[a0,a1,a2,a3,a4,a5,a6,a7,a8,a9,a10,a11])) w)(hfn:fn.results= #[.cell p T]:=by rfl)(hk:s.L[k]? =some b:=by rfl)(hx:look s.t p=some (b.at 0):=by rfl)(hi:eP P T i=true:=by exact wF _)(hvs:b.cs.take i.size=[a0,a1,a2,a3,a4,a5,a6,a7,a8,a9,a10,a11]:=by rfl)(hn:Nat.beq i.size 12=true:=by rfl)(ha:i.agg=true:=by rfl)(hD:B.D=[]:=by first|rfl|assumption):At B s (bodyPost P fn R .ret):=aH hfn (bu k hk hx hi hvs (Nat.eq_of_beq_eq_true hn).symm (by rw[Nat.eq_of_beq_eq_true hn];decide) (by rw[ha];rfl)) hR hD
def JQ{p T:Nat}{b:aG}{i:TI}{a0 a1 a2 a3 a4 a5 a6 a7 a8 a9 a10 a11 v':Value}{w0:World}(k:Nat)(h:Ending.returned (.agg #[a0,a1,a2,a3,a4,a5,a6,a7,a8,a9,a10,a11])= .returned v')(hfn:fn.results= #[.cell p T]:=by rfl)(hk:s.L[k]? =some b:=by rfl)(hx:look s.t p=some (b.at 0):=by rfl)(hi:eP P T i=true:=by exact wF _)(hvs:b.cs.take i.size=[a0,a1,a2,a3,a4,a5,a6,a7,a8,a9,a10,a11]:=by rfl)(hn:Nat.beq i.size 12=true:=by rfl)(ha:i.agg=true:=by rfl):At (Bs.of w0) s (bodyPost P fn (fun e w'=>e= .returned v'∧fP w0.heap.size w0 w') .ret):=qkP k (fun w hL=>⟨h,hL.below⟩) hfn hk hx hi hvs hn ha
def qkQ{p T:Nat}{b:aG}{i:TI}{a0 a1 a2 a3 a4 a5 a6 a7 a8 a9 a10 a11 a12 a13 a14 a15:Value}(k:Nat)(hR:∀w,bf B s.L w->R (.returned (.agg #[a0,a1,a2,a3,a4,a5,a6,a7,a8,a9,a10,a11,a12,a13,a14,a15])) w)(hfn:fn.results= #[.cell p T]:=by rfl)(hk:s.L[k]? =some b:=by rfl)(hx:look s.t p=some (b.at 0):=by rfl)(hi:eP P T i=true:=by exact wF _)(hvs:b.cs.take i.size=[a0,a1,a2,a3,a4,a5,a6,a7,a8,a9,a10,a11,a12,a13,a14,a15]:=by rfl)(hn:Nat.beq i.size 16=true:=by rfl)(ha:i.agg=true:=by rfl)(hD:B.D=[]:=by first|rfl|assumption):At B s (bodyPost P fn R .ret):=aH hfn (bu k hk hx hi hvs (Nat.eq_of_beq_eq_true hn).symm (by rw[Nat.eq_of_beq_eq_true hn];decide) (by rw[ha];rfl)) hR hD
def qgV{p T:Nat}{b:aG}{i:TI}{a0 a1 a2 a3 a4 a5 a6 a7 a8 a9 a10 a11 a12 a13 a14 a15 v':Value}{w0:World}(k:Nat)(h:Ending.returned (.agg #[a0,a1,a2,a3,a4,a5,a6,a7,a8,a9,a10,a11,a12,a13,a14,a15])= .returned v')(hfn:fn.results= #[.cell p T]:=by rfl)(hk:s.L[k]? =some b:=by rfl)(hx:look s.t p=some (b.at 0):=by rfl)(hi:eP P T i=true:=by exact wF _)(hvs:b.cs.take i.size=[a0,a1,a2,a3,a4,a5,a6,a7,a8,a9,a10,a11,a12,a13,a14,a15]:=by rfl)(hn:Nat.beq i.size 16=true:=by rfl)(ha:i.agg=true:=by rfl):At (Bs.of w0) s (bodyPost P fn (fun e w'=>e= .returned v'∧fP w0.heap.size w0 w') .ret):=qkQ k (fun w hL=>⟨h,hL.below⟩) hfn hk hx hi hvs hn ha
def qkR{p T:Nat}{b:aG}{i:TI}{a0 a1 a2 a3 a4 a5 a6 a7 a8 a9 a10 a11 a12 a13 a14 a15 a16 a17 a18 a19:Value}(k:Nat)(hR:∀w,bf B s.L w->R (.returned (.agg #[a0,a1,a2,a3,a4,a5,a6,a7,a8,a9,a10,a11,a12,a13,a14,a15,a16,a17,a18,a19])) w)(hfn:fn.results= #[.cell p T]:=by rfl)(hk:s.L[k]? =some b:=by rfl)(hx:look s.t p=some (b.at 0):=by rfl)(hi:eP P T i=true:=by exact wF _)(hvs:b.cs.take i.size=[a0,a1,a2,a3,a4,a5,a6,a7,a8,a9,a10,a11,a12,a13,a14,a15,a16,a17,a18,a19]:=by rfl)(hn:Nat.beq i.size 20=true:=by rfl)(ha:i.agg=true:=by rfl)(hD:B.D=[]:=by first|rfl|assumption):At B s (bodyPost P fn R .ret):=aH hfn (bu k hk hx hi hvs (Nat.eq_of_beq_eq_true hn).symm (by rw[Nat.eq_of_beq_eq_true hn];decide) (by rw[ha];rfl)) hR hD
def qkS{p T:Nat}{b:aG}{i:TI}{a0 a1 a2 a3 a4 a5 a6 a7 a8 a9 a10 a11 a12 a13 a14 a15 a16 a17 a18 a19 v':Value}{w0:World}(k:Nat)(h:Ending.returned (.agg #[a0,a1,a2,a3,a4,a5,a6,a7,a8,a9,a10,a11,a12,a13,a14,a15,a16,a17,a18,a19])= .returned v')(hfn:fn.results= #[.cell p T]:=by rfl)(hk:s.L[k]? =some b:=by rfl)(hx:look s.t p=some (b.at 0):=by rfl)(hi:eP P T i=true:=by exact wF _)(hvs:b.cs.take i.size=[a0,a1,a2,a3,a4,a5,a6,a7,a8,a9,a10,a11,a12,a13,a14,a15,a16,a17,a18,a19]:=by rfl)(hn:Nat.beq i.size 20=true:=by rfl)(ha:i.agg=true:=by rfl):At (Bs.of w0) s (bodyPost P fn (fun e w'=>e= .returned v'∧fP w0.heap.size w0 w') .ret):=qkR k (fun w hL=>⟨h,hL.below⟩) hfn hk hx hi hvs hn ha
def qkT{p T:Nat}{b:aG}{i:TI}{a0 a1 a2 a3 a4 a5 a6 a7 a8 a9 a10 a11 a12 a13 a14 a15 a16 a17 a18 a19 a20 a21 a22 a23 a24 a25 a26 a27 a28 a29 a30 a31 a32 a33 a34 a35 a36 a37:Value}(k:Nat)(hR:∀w,bf B s.L w->R (.returned (.agg #[a0,a1,a2,a3,a4,a5,a6,a7,a8,a9,a10,a11,a12,a13,a14,a15,a16,a17,a18,a19,a20,a21,a22,a23,a24,a25,a26,a27,a28,a29,a30,a31,a32,a33,a34,a35,a36,a37])) w)(hfn:fn.results= #[.cell p T]:=by rfl)(hk:s.L[k]? =some b:=by rfl)(hx:look s.t p=some (b.at 0):=by rfl)(hi:eP P T i=true:=by exact wF _)(hvs:b.cs.take i.size=[a0,a1,a2,a3,a4,a5,a6,a7,a8,a9,a10,a11,a12,a13,a14,a15,a16,a17,a18,a19,a20,a21,a22,a23,a24,a25,a26,a27,a28,a29,a30,a31,a32,a33,a34,a35,a36,a37]:=by rfl)(hn:Nat.beq i.size 38=true:=by rfl)(ha:i.agg=true:=by rfl)(hD:B.D=[]:=by first|rfl|assumption):At B s (bodyPost P fn R .ret):=aH hfn (bu k hk hx hi hvs (Nat.eq_of_beq_eq_true hn).symm (by rw[Nat.eq_of_beq_eq_true hn];decide) (by rw[ha];rfl)) hR hD
def qkU{p T:Nat}{b:aG}{i:TI}{a0 a1 a2 a3 a4 a5 a6 a7 a8 a9 a10 a11 a12 a13 a14 a15 a16 a17 a18 a19 a20 a21 a22 a23 a24 a25 a26 a27 a28 a29 a30 a31 a32 a33 a34 a35 a36 a37 v':Value}{w0:World}(k:Nat)(h:Ending.returned (.agg #[a0,a1,a2,a3,a4,a5,a6,a7,a8,a9,a10,a11,a12,a13,a14,a15,a16,a17,a18,a19,a20,a21,a22,a23,a24,a25,a26,a27,a28,a29,a30,a31,a32,a33,a34,a35,a36,a37])= .returned v')(hfn:fn.results= #[.cell p T]:=by rfl)(hk:s.L[k]? =some b:=by rfl)(hx:look s.t p=some (b.at 0):=by rfl)(hi:eP P T i=true:=by exact wF _)(hvs:b.cs.take i.size=[a0,a1,a2,a3,a4,a5,a6,a7,a8,a9,a10,a11,a12,a13,a14,a15,a16,a17,a18,a19,a20,a21,a22,a23,a24,a25,a26,a27,a28,a29,a30,a31,a32,a33,a34,a35,a36,a37]:=by rfl)(hn:Nat.beq i.size 38=true:=by rfl)(ha:i.agg=true:=by rfl):At (Bs.of w0) s (bodyPost P fn (fun e w'=>e= .returned v'∧fP w0.heap.size w0 w') .ret):=qkT k (fun w hL=>⟨h,hL.below⟩) hfn hk hx hi hvs hn ha
end
def Ni{B:Bs}{nt:Nat}{t:List (Nat×Value)}{L:List aG}{X:Type}{T:X->List (Nat×Value)}{LL:X->List aG}(z:X)(ks:List Nat)(lk:jX t (T z):=by repeat (first|exact trivial|refine⟨rfl,?_⟩))(hp:jr L (ks.map some) (LL z):=by repeat (first|exact trivial|refine⟨⟨_,rfl,aG.le_refl _⟩,?_⟩))(hl:(ks.map some).length=(LL z).length:=by rfl)(ha:lW (ks.map some) ((LL z).map (·.own))=true:=by rfl):At B ⟨nt,t,L⟩ (fun a w=>∃z,lh B ⟨nt,T z,LL z⟩ a w):=ED z lk (au _ hp hl ha)
def uK:List Oper->Nat->Oper
 |[],_=>default
 |x::_,0=>x
 |_::l,n+1=>uK l n
def JR:∀(l:List Oper) (i:Nat),uK l i=l.toArray.getD i default
 |[],i=>by simp[uK]
 |x::l,0=>by simp[uK]
 |x::l,n+1=>by have:=JR l n;simp[uK] at this ⊢;exact this
def Nu{l l':List Oper}{perm:List Nat}(h:perm.map (uK l)=l'):perm.map (fun i=>l.toArray.getD i default)=l':=by rw[<-h];exact List.map_congr_left fun i _=>(JR l i).symm
section
variable{P:Program}{B:Bs}{s:St}{Q:Exit->Act->World->Prop}{id:Nat}{l l':List Oper}
def Dp(bl perm:List Nat)(h:aY P bl l.toArray l' s (fun s'=>At B s' (Q .normal)))(hm:P.follows .mixedOrders=true:=by exact mixed)(hc:vW bl l.toArray perm=true:=by kernel_rfl)(hl:perm.map (uK l)=l':=by first|(dsimp only[List.map,uK];done)|(dsimp only[List.map,uK];exact rfl))(hf:Jh bl l.toArray s=true:=by kernel_rfl):At B s ((Code.region id l.toArray true).wp P Q):=QE bl perm hm hc (Nu hl) hf h
def Dq(bl perm:List Nat)(h:aY P bl l.toArray l' s (fun s'=>At B s' (Q .normal)))(hm:P.follows .mixedOrders=true:=by exact mixed)(hc:zL bl l.toArray perm=true:=by kernel_rfl)(hl:perm.map (uK l)=l':=by first|(dsimp only[List.map,uK];done)|(dsimp only[List.map,uK];exact rfl)):At B s ((Code.region id l.toArray true).wp P Q):=FU bl perm hm hc (Nu hl) h
def Di(bl:List Nat)(h:aY P bl l.toArray l s (fun s'=>At B s' (Q .normal)))(hm:P.follows .mixedOrders=true:=by exact mixed)(hc:vW bl l.toArray (List.range l.length)=true:=by kernel_rfl)(hf:Jh bl l.toArray s=true:=by kernel_rfl):At B s ((Code.region id l.toArray true).wp P Q):=FV bl hm hc hf h
end
section
variable{P:Program}{ops:Array Oper}{X:Act->World->Prop}{B:Bs}{n:Nat}{R:List Nat}
def Nt{nt:Nat}{t:List (Nat×Value)}{L:List aG}{l l':List Oper}(i:Nat)(h:aY P [] l.toArray l' ⟨nt,t,[]⟩ (fun s'=>wZ P l.toArray X B n (R.filter (· !=i)) ⟨nt,s'.t,L⟩))(hc:(Region.noSelect l.toArray&&Bg l.toArray (Ag l.toArray.size R) [i])=true:=by kernel_rfl)(hl:[uK l i]=l':=by first|(dsimp only[uK];done)|(dsimp only[uK];exact rfl)):wZ P l.toArray X B (n+1) R ⟨nt,t,L⟩:=qdH i hc (by rw[<-hl,JR]) h
def FK{s:St}{o:Oper}(i:Nat)(h:aY P [1000000] ops [o] s (fun s'=>wZ P ops X B n (R.filter (· !=i)) s'))(h1:Region.ready .any ops (Ag ops.size R)=[i]:=by kernel_rfl)(ho:ops[i]? =some o:=by rfl):wZ P ops X B (n+1) R s:=cZ [i] h1 rfl ⟨⟨_,ho,h⟩,trivial⟩
def Nw{nt:Nat}{t:List (Nat×Value)}{L:List aG}{Z:Type}{T:Z->List (Nat×Value)}{LL:Z->List aG}(h:∀z,wZ P ops X B n R ⟨nt,T z,LL z⟩)(z:Z)(ks:List Nat)(lk:jX t (T z):=by repeat (first|exact trivial|refine⟨rfl,?_⟩))(hp:jr L (ks.map some) (LL z):=by repeat (first|exact trivial|refine⟨⟨_,rfl,aG.le_refl _⟩,?_⟩))(hl:(ks.map some).length=(LL z).length:=by rfl)(ha:lW (ks.map some) ((LL z).map (·.own))=true:=by rfl):wZ P ops X B n R ⟨nt,t,L⟩:=qdI h z lk (au _ hp hl ha)
end
end Go.Via
namespace Go.Proofs.YtaffcpfhedadhaaGreatDoor
open Go Go.RowKit Go.Via
def tiL:List (Nat×TI):=((3,⟨false,1,[]⟩)::(4,⟨false,1,[]⟩)::(5,⟨false,1,[]⟩)::(9,⟨false,1,[]⟩)::(22,⟨false,1,[]⟩)::(24,⟨true,4,[(0,1),(1,1),(2,1),(3,1)]⟩)::(26,⟨true,9,[(0,4),(4,4),(8,1)]⟩)::(32,⟨false,1,[]⟩)::(34,⟨true,2,[(0,1),(1,1)]⟩)::(36,⟨true,4,[(0,2),(2,2)]⟩)::(38,⟨true,9,[(0,4),(4,4),(8,1)]⟩)::(40,⟨true,10,[(0,1),(1,9)]⟩)::(48,⟨true,5,[(0,1),(1,1),(2,1),(3,1),(4,1)]⟩)::(55,⟨true,4,[(0,1),(1,1),(2,1),(3,1)]⟩)::(57,⟨true,6,[(0,1),(1,1),(2,4)]⟩)::(61,⟨true,20,[(0,9),(9,9),(18,1),(19,1)]⟩)::(63,⟨true,38,[(0,20),(20,9),(29,9)]⟩)::(74,⟨false,1,[]⟩)::(86,⟨true,4,[(0,1),(1,1),(2,1),(3,1)]⟩)::(91,⟨true,12,[(0,4),(4,4),(8,4)]⟩)::(93,⟨true,32,[(0,20),(20,12)]⟩)::(98,⟨true,16,[(0,4),(4,4),(8,4),(12,4)]⟩)::(100,⟨true,36,[(0,20),(20,16)]⟩)::(118,⟨false,1,[]⟩)::(120,⟨true,3,[(0,1),(1,1),(2,1)]⟩)::(130,⟨true,3,[]⟩)::(135,⟨true,8,[(0,4),(4,4)]⟩)::(137,⟨true,12,[(0,4),(4,8)]⟩)::(148,⟨false,1,[]⟩)::(151,⟨true,52,[(0,20),(20,16),(36,16)]⟩)::(174,⟨true,12,[]⟩)::(181,⟨true,21,[(0,20),(20,1)]⟩)::(184,⟨true,21,[(0,20),(20,1)]⟩)::(197,⟨true,0,[]⟩)::(201,⟨true,36,[(0,20),(20,16)]⟩)::(209,⟨true,10,[(0,9),(9,1)]⟩)::(221,⟨false,1,[]⟩)::(251,⟨true,2,[]⟩)::(253,⟨true,12,[(0,10),(10,2)]⟩)::(272,⟨false,1,[]⟩)::(286,⟨true,8,[]⟩)::(306,⟨false,1,[]⟩)::(308,⟨true,2,[(0,1),(1,1)]⟩)::(317,⟨true,256,[]⟩)::(328,⟨false,1,[]⟩)::(352,⟨true,2,[(0,1),(1,1)]⟩)::(353,⟨true,32,[]⟩)::[])
def qi1(T:Nat):TI:=(tiL.lookup T).getD ⟨false,0,[]⟩
def tiK:tiL.all (fun p=>eP Tryz.prog p.1 p.2)=true:=by kernel_rfl
def JS{α:Type}:∀{l:List (Nat×α)} {k:Nat} {v:α},l.lookup k=some v->(k,v)∈l
 |(a,b)::l,k,v,h=>by
  rw[List.lookup_cons] at h
  split at h
  ·rename_i e;cases h;rw[eq_of_beq e];exact List.mem_cons_self
  ·exact List.mem_cons_of_mem _ (JS h)
def qi2{α:Type}{p:Nat->α->Bool}{l:List (Nat×α)}{k:Nat}{v:α}(h:l.all (fun x=>p x.1 x.2)=true)(hv:l.lookup k=some v):p k v=true:=List.all_eq_true.1 h _ (JS hv)
def slB(o:Option TypeDesc)(e:Nat):Bool:=match o with
 |some (.slice e')=>e'==e
 |_=>false
def qgW{o:Option TypeDesc}{e:Nat}(h:slB o e=true):o=some (.slice e):=by
 unfold slB at h
 split at h
 ·rw[eq_of_beq h]
 ·cases h
def stB(o:Option TypeDesc):Bool:=match o with
 |some .string=>true
 |_=>false
def qgX{o:Option TypeDesc}(h:stB o=true):o=some .string:=by
 unfold stB at h
 split at h
 ·rfl
 ·cases h
def wF(T:Nat)(h:(tiL.lookup T).isSome=true:=by rfl):eP Tryz.prog T (qi1 T)=true:=by
 obtain⟨v,hv⟩:=Option.isSome_iff_exists.1 h;unfold qi1;rw[hv,Option.getD_some];exact qi2 (p:=fun a b=>eP Tryz.prog a b) tiK hv
def elL:List (Nat×Nat):=((22,86)::(29,100)::(32,63)::(74,61)::(88,93)::(118,3)::(146,151)::(148,201)::(153,38)::(177,181)::(182,184)::(186,32)::(221,5)::(249,253)::(250,74)::(270,272)::[])
def qi3(T:Nat):Nat:=(elL.lookup T).getD 0
def elK:elL.all (fun p=>slB (Tryz.prog.underlying p.1) p.2)=true:=by kernel_rfl
def uA(T:Nat)(h:(elL.lookup T).isSome=true:=by rfl):Tryz.prog.underlying T=some (.slice (qi3 T)):=by
 obtain⟨v,hv⟩:=Option.isSome_iff_exists.1 h;unfold qi3;rw[hv];have:=qi2 (p:=fun a b=>slB (Tryz.prog.underlying a) b) elK hv
 rw[Option.getD_some];exact qgW this
def stL:List Nat:=(9::[])
def stK:stL.all (fun T=>stB (Tryz.prog.underlying T))=true:=by kernel_rfl
def uT(T:Nat)(h:stL.contains T=true:=by rfl):Tryz.prog.underlying T=some .string:=by
 exact qgX (List.all_eq_true.1 stK T (List.contains_iff_mem.1 h))
end Go.Proofs.YtaffcpfhedadhaaGreatDoor
namespace Go.Proofs
open Go.Shelf
def Tryz.sortEv_ren:Go.Shelf.Ren:=⟨fun|6=>192|14=>222|15=>223|20=>239|21=>240|22=>241|23=>242|24=>243|25=>244|26=>245|27=>246|28=>247|29=>226|46=>266|47=>267|48=>268|49=>269|50=>270|57=>284|n=>n,fun|0=>0|3=>3|4=>4|5=>5|9=>9|22=>249|24=>253|25=>255|39=>236|53=>272|55=>189|76=>343|66=>328|45=>297|46=>298|50=>139|77=>344|70=>332|n=>n,fun n=>n⟩
def Tryz.sortEv:SlLaysF0.n6 Tryz.prog Tryz.sortEv_ren where
 mixed:=by kernel_rfl
 f6:=⟨"slices.SortFunc[[]viator/period.event,viator/period.event]",by decide,Tryz.func192.trans (congrArg some (by kernel_rfl))⟩
 f14:=⟨"slices.pdqsortCmpFunc[viator/period.event]",by decide,Tryz.func222.trans (congrArg some (by kernel_rfl))⟩
 f15:=Tryz.func223.trans (congrArg some (by kernel_rfl))
 f20:=⟨"slices.insertionSortCmpFunc[viator/period.event]",by decide,Tryz.func239.trans (congrArg some (by kernel_rfl))⟩
 f21:=⟨"slices.heapSortCmpFunc[viator/period.event]",by decide,Tryz.func240.trans (congrArg some (by kernel_rfl))⟩
 f22:=⟨"slices.breakPatternsCmpFunc[viator/period.event]",by decide,Tryz.func241.trans (congrArg some (by kernel_rfl))⟩
 f23:=⟨"slices.choosePivotCmpFunc[viator/period.event]",by decide,Tryz.func242.trans (congrArg some (by kernel_rfl))⟩
 f24:=⟨"slices.reverseRangeCmpFunc[viator/period.event]",by decide,Tryz.func243.trans (congrArg some (by kernel_rfl))⟩
 f25:=⟨"slices.partialInsertionSortCmpFunc[viator/period.event]",by decide,Tryz.func244.trans (congrArg some (by kernel_rfl))⟩
 f26:=⟨"slices.partitionEqualCmpFunc[viator/period.event]",by decide,Tryz.func245.trans (congrArg some (by kernel_rfl))⟩
 f27:=⟨"slices.partitionCmpFunc[viator/period.event]",by decide,Tryz.func246.trans (congrArg some (by kernel_rfl))⟩
 f28:=Tryz.func247.trans (congrArg some (by kernel_rfl))
 f29:=Tryz.func226.trans (congrArg some (by kernel_rfl))
 f46:=⟨"slices.siftDownCmpFunc[viator/period.event]",by decide,Tryz.func266.trans (congrArg some (by kernel_rfl))⟩
 f47:=Tryz.func267.trans (congrArg some (by kernel_rfl))
 f48:=Tryz.func268.trans (congrArg some (by kernel_rfl))
 f49:=⟨"slices.medianAdjacentCmpFunc[viator/period.event]",by decide,Tryz.func269.trans (congrArg some (by kernel_rfl))⟩
 f50:=⟨"slices.medianCmpFunc[viator/period.event]",by decide,Tryz.func270.trans (congrArg some (by kernel_rfl))⟩
 f57:=⟨"slices.order2CmpFunc[viator/period.event]",by decide,Tryz.func284.trans (congrArg some (by kernel_rfl))⟩
 t0:=Tryz.underlying0
 a0:=Tryz.isAgg0
 z0:=Tryz.sizeOf0
 v0:=Tryz.zeroValue0
 t3:=Tryz.underlying3
 a3:=Tryz.isAgg3
 z3:=Tryz.sizeOf3
 v3:=Tryz.zeroValue3
 t4:=Tryz.underlying4
 a4:=Tryz.isAgg4
 z4:=Tryz.sizeOf4
 v4:=Tryz.zeroValue4
 t5:=Tryz.underlying5
 a5:=Tryz.isAgg5
 z5:=Tryz.sizeOf5
 v5:=Tryz.zeroValue5
 t9:=Tryz.underlying9
 a9:=Tryz.isAgg9
 z9:=Tryz.sizeOf9
 v9:=Tryz.zeroValue9
 t22:=Tryz.underlying249
 a22:=Tryz.isAgg249
 z22:=Tryz.sizeOf249
 v22:=Tryz.zeroValue249
 t25:=Tryz.underlying255
 a25:=Tryz.isAgg255
 z25:=Tryz.sizeOf255
 v25:=Tryz.zeroValue255
 t39:=Tryz.underlying236
 a39:=Tryz.isAgg236
 z39:=Tryz.sizeOf236
 v39:=Tryz.zeroValue236
 t45:=Tryz.underlying297
 a45:=Tryz.isAgg297
 z45:=Tryz.sizeOf297
 v45:=Tryz.zeroValue297
 t46:=Tryz.underlying298
 a46:=Tryz.isAgg298
 z46:=Tryz.sizeOf298
 v46:=Tryz.zeroValue298
 t50:=Tryz.underlying139
 a50:=Tryz.isAgg139
 z50:=Tryz.sizeOf139
 v50:=Tryz.zeroValue139
 t53:=Tryz.underlying272
 a53:=Tryz.isAgg272
 z53:=Tryz.sizeOf272
 v53:=Tryz.zeroValue272
 t55:=Tryz.underlying189
 a55:=Tryz.isAgg189
 z55:=Tryz.sizeOf189
 v55:=Tryz.zeroValue189
 t66:=Tryz.underlying328
 a66:=Tryz.isAgg328
 z66:=Tryz.sizeOf328
 v66:=Tryz.zeroValue328
 t70:=Tryz.underlying332
 a70:=Tryz.isAgg332
 z70:=Tryz.sizeOf332
 v70:=Tryz.zeroValue332
 t76:=Tryz.underlying343
 a76:=Tryz.isAgg343
 z76:=Tryz.sizeOf343
 v76:=Tryz.zeroValue343
 t77:=Tryz.underlying344
 a77:=Tryz.isAgg344
 z77:=Tryz.sizeOf344
 v77:=Tryz.zeroValue344
def Tryz.insPU_ren:Go.Shelf.Ren:=⟨fun|15=>223|20=>264|28=>247|29=>226|47=>267|48=>268|n=>n,fun|0=>0|3=>3|4=>4|5=>5|9=>9|22=>148|24=>201|25=>280|n=>n,fun n=>n⟩
def Tryz.insPU:SlLaysF0.n20 Tryz.prog Tryz.insPU_ren where
 mixed:=by kernel_rfl
 f20:=⟨"slices.insertionSortCmpFunc[viator/pieces.Unit[viator/api.Line]]",by decide,Tryz.func264.trans (congrArg some (by kernel_rfl))⟩
 t0:=Tryz.underlying0
 a0:=Tryz.isAgg0
 z0:=Tryz.sizeOf0
 v0:=Tryz.zeroValue0
 t3:=Tryz.underlying3
 a3:=Tryz.isAgg3
 z3:=Tryz.sizeOf3
 v3:=Tryz.zeroValue3
 t4:=Tryz.underlying4
 a4:=Tryz.isAgg4
 z4:=Tryz.sizeOf4
 v4:=Tryz.zeroValue4
 t22:=Tryz.underlying148
 a22:=Tryz.isAgg148
 z22:=Tryz.sizeOf148
 v22:=Tryz.zeroValue148
 t25:=Tryz.underlying280
 a25:=Tryz.isAgg280
 z25:=Tryz.sizeOf280
 v25:=Tryz.zeroValue280
end Go.Proofs
namespace Go.Via
open Go
def V4(n i:Nat)(h:i<nb n):(bQ n).data.toList[((nb n-1-i:Nat):Int).toNat]? =some (UInt8.ofNat (n/256^i%256)):=by
 have:=Un n (nb n-1-i) (by omega)
 rwa [show nb n-1-(nb n-1-i)=i by omega] at this
def Ux(n i j:Nat):yJ n (i+1) j=if j=i/4 then yJ n i (i/4)+2^(8*(i%4))*(n/256^i%256) else yJ n i j:=by
 rw[XR];split
 ·rename_i e;rw[<-e]
 ·rfl
def qdJ{x s:Int}(m k:Nat)(hx:x=(m:Int))(hs:s=(k:Int))(hk:k<=32):x.fdiv (2^(min s.toNat IntKind.u32.bits))=((m/2^k:Nat):Int):=by
 subst hx;subst hs;have:min (k:Int).toNat IntKind.u32.bits=k:=by rw[TV];omega
 rw[this,Int.fdiv_eq_ediv_of_nonneg _ (Int.pow_nonneg (by omega))];simp
def qad{l:List Nat}{N M i:Nat}(hl:∀d∈l,d<ae)(hN:val ae l=N)(hM:(ag ae N).length=M)(hi:i<M):l[i]? =some (N/ae^i%ae):=by
 subst hN;subst hM;have h1:=xQ dH hl;have h2:=kV (B:=ae) dH hi;rw[<-h1,List.getElem?_take] at h2;rw[if_pos hi] at h2;exact h2
def Uy{l:List Nat}{N M:Nat}(hN:val ae l=N)(hM:(ag ae N).length=M)(h0:M=0):(⟨#[]⟩:ByteArray)=bQ N:=by
 subst h0;have:N=0:=(wo dH).1 (List.eq_nil_of_length_eq_zero hM);rw[this,je]
def X8{N M:Nat}(hM:(ag ae N).length=M):N<256^(4*M):=by
 rw[<-Ep,<-hM];exact eQ dH N
def EE{m n:Nat}(h:(decide (nb m<=8)&&decide (nb n<=8))=true):m<18446744073709551616∧n<18446744073709551616∧nb m<=8∧nb n<=8:=by
 simp only[Bool.and_eq_true,decide_eq_true_eq] at h;have h1:=pF h.1;have h2:=pF h.2;exact⟨by omega,by omega,h.1,h.2⟩
def ny(X Y i:Nat):Nat:=(X%ae^i+Y%ae^i)/ae^i+X/ae^i%ae+Y/ae^i%ae
def nT(X Y i:Nat):Nat:=(X%ae^i+Y%ae^i)/ae^i
def oK(X Y i j:Nat):Nat:=if j<i then(X+Y)/ae^j%ae else X/ae^j%ae
def dB(i:Nat):0<ae^i:=Nat.pow_pos (by decide)
def aU(n:Nat):n%ae<4294967296:=Nat.mod_lt _ (by decide)
def pX(X Y i:Nat):nT X Y i<=1:=by
 unfold nT;have h1:=Nat.mod_lt X (dB i);have h2:=Nat.mod_lt Y (dB i);have:(X%ae^i+Y%ae^i)/ae^i<2:=by rw[Nat.div_lt_iff_lt_mul (dB i)];omega
 omega
def qV(X Y:Nat):nT X Y 0=0:=by simp[nT,Nat.mod_one]
def yN(X Y i:Nat):ny X Y i=nT X Y i+X/ae^i%ae+Y/ae^i%ae:=rfl
def yO(X Y i:Nat):ny X Y i<8589934592:=by
 have:=pX X Y i;have h1:=aU (X/ae^i);have h2:=aU (Y/ae^i);rw[yN];omega
def jL(X Y i:Nat):ny X Y i/2^32=nT X Y (i+1):=by
 show _/ae=_;unfold ny nT;rw[Nat.pow_succ,Nat.mod_mul,Nat.mod_mul,<-Nat.div_div_eq_div_mul]
 congr 1
 have e:X%ae^i+ae^i*(X/ae^i%ae)+(Y%ae^i+ae^i*(Y/ae^i%ae))=(X%ae^i+Y%ae^i)+ae^i*(X/ae^i%ae+Y/ae^i%ae):=(by rw[Nat.mul_add];omega);rw[e,Nat.add_mul_div_left _ _ (dB i)];omega
def Q9(X Y i:Nat):ny X Y i%4294967296=(X+Y)/ae^i%ae:=by
 show _%ae=_;have e:X+Y=(X%ae^i+Y%ae^i)+ae^i*(X/ae^i+Y/ae^i):=by
  have h1:=Nat.mod_add_div X (ae^i);have h2:=Nat.mod_add_div Y (ae^i);rw[Nat.mul_add];omega
 conv=>rhs;rw[e]
 rw[Nat.add_mul_div_left _ _ (dB i)];unfold ny
 generalize(X%ae^i+Y%ae^i)/ae^i=c
 generalize X/ae^i=p
 generalize Y/ae^i=q
 rw[Nat.add_assoc,Nat.add_mod,<-Nat.add_mod p q,<-Nat.add_mod]
def pG(X Y i j:Nat):oK X Y (i+1) j=if j=i then ny X Y i%4294967296 else oK X Y i j:=by
 rw[Q9];unfold oK
 by_cases e:j=i
 ·subst e;rw[if_pos (by omega),if_pos rfl]
 ·rw[if_neg e]
  by_cases c:j<i
  ·rw[if_pos c,if_pos (by omega)]
  ·rw[if_neg c,if_neg (by omega)]
def IR(X Y i:Nat):oK X Y i i=X/ae^i%ae:=by unfold oK;rw[if_neg (by omega)]
def oU{Y i:Nat}(h:(ag ae Y).length<=i):Y/ae^i%ae=0:=by
 rw[Nat.div_eq_of_lt (Nat.lt_of_lt_of_le (eQ dH Y) (Nat.pow_le_pow_right (by decide) h))];rfl
def Bz(X Y:Nat):NV .u32 (ag ae X)++(NV .u32 (List.replicate ((ag ae X).length+1) 0)).drop (ag ae X).length=NV .u32 (row ((ag ae X).length+1) (oK X Y 0)):=by
 rw[Vz,MN]
 congr 1
 have e:row ((ag ae X).length+1) (oK X Y 0)=row (ag ae X).length (fun j=>X/ae^j%ae)++[0]:=by
  unfold row;rw[List.range_succ,List.map_append]
  congr 1
  simp only[List.map_cons,List.map_nil,oK];rw[if_neg (by omega),oU (Nat.le_refl _)]
 rw[e,<-zZ dH X]
 congr 1
 simp
def EF{X Y:Nat}(h:(ag ae Y).length<=(ag ae X).length):val ae (row ((ag ae X).length+1) (oK X Y ((ag ae X).length+1)))=X+Y:=by
 rw[bG (g:=fun j=>(X+Y)/ae^j%ae) (fun j hj=>by unfold oK;rw[if_pos hj]),pV ae (by decide),Nat.mod_eq_of_lt]
 have h1:=eQ dH X;have h2:=Nat.lt_of_lt_of_le (eQ dH Y) (Nat.pow_le_pow_right (by decide) h);rw[Nat.pow_succ];have:ae^(ag ae X).length*2<=ae^(ag ae X).length*ae:=Nat.mul_le_mul_left _ (by decide);omega
def IU(X Y i j:Nat):oK X Y i j<ae:=by unfold oK;split<;>exact aU _
def kD{n k:Nat}(h:nb n<=k):(ag ae n).length<=(k+3)/4:=by rw[Es];omega
def jB(m n i:Nat):Nat:=if m%ae^i<n%ae^i then 1 else 0
def zu(m n i j:Nat):Nat:=if j<i then(m-n)/ae^j%ae else m/ae^j%ae
def BA(m n:Nat):jB m n 0=0:=by simp[jB,Nat.mod_one]
def ug(m n i:Nat):jB m n i<=1:=by unfold jB;split<;>omega
def V5{m n i:Nat}(h:n<=m):(m-n)/ae^i+n/ae^i+jB m n i=m/ae^i:=by
 have h1:=Nat.mod_add_div m (ae^i);have h2:=Nat.mod_add_div n (ae^i);have h3:=Nat.mod_lt m (dB i);have h4:=Nat.mod_lt n (dB i);have hp:=dB i
 generalize hP:ae^i=P at*
 generalize m/P=M at*
 generalize n/P=N at*
 unfold jB;rw[hP]
 split
 ·rename_i hlt
  have hMN:N+1<=M:=by
   by_cases c:M<=N
   ·have:=Nat.mul_le_mul_left P c;omega
   ·omega
  obtain⟨k,rfl⟩:∃k,M=N+1+k:=⟨M-(N+1),by omega⟩;have e:m-n=(m%P+P-n%P)+P*k:=by
   rw[Nat.mul_add,Nat.mul_add] at h1;omega
  rw[e,Nat.add_mul_div_left _ _ hp,Nat.div_eq_of_lt (by omega)];omega
 ·rename_i hge
  have hMN:N<=M:=by
   by_cases c:M<N
   ·have:=Nat.mul_le_mul_left P c;rw[Nat.mul_succ] at this;omega
   ·omega
  obtain⟨k,rfl⟩:∃k,M=N+k:=⟨M-N,by omega⟩;have e:m-n=(m%P-n%P)+P*k:=by
   rw[Nat.mul_add] at h1;omega
  rw[e,Nat.add_mul_div_left _ _ hp,Nat.div_eq_of_lt (by omega)];omega
def Nv(m n i:Nat):jB m n (i+1)=if m/ae^i%ae<n/ae^i%ae+jB m n i then 1 else 0:=by
 unfold jB;rw[Nat.pow_succ,Nat.mod_mul,Nat.mod_mul];have h3:=Nat.mod_lt m (dB i);have h4:=Nat.mod_lt n (dB i)
 generalize m/ae^i%ae=x
 generalize n/ae^i%ae=y
 generalize hP:ae^i=P at*
 have key:(m%P+P*x<n%P+P*y)↔x<y+(if m%P<n%P then 1 else 0):=by
  rcases Nat.lt_trichotomy x y with c|c|c
  ·have:=Nat.mul_le_mul_left P c;rw[Nat.mul_succ] at this
   constructor<;>intro _<;>omega
  ·subst c;split<;>constructor<;>intro _<;>omega
  ·have:=Nat.mul_le_mul_left P c;rw[Nat.mul_succ] at this
   split<;>constructor<;>intro _<;>omega
 simp only[key]
def O8{m n i:Nat}(h:n<=m)(hd:m/ae^i%ae<n/ae^i%ae+jB m n i):m/ae^i%ae+4294967296=(m-n)/ae^i%ae+n/ae^i%ae+jB m n i∧jB m n (i+1)=1:=by
 refine⟨?_,by rw[Nv,if_pos hd]⟩;have h1:=V5 (i:=i) h;have h2:=ug m n i;unfold ae at*;omega
def O9{m n i:Nat}(h:n<=m)(hd:¬m/ae^i%ae<n/ae^i%ae+jB m n i):m/ae^i%ae=(m-n)/ae^i%ae+n/ae^i%ae+jB m n i∧jB m n (i+1)=0:=by
 refine⟨?_,by rw[Nv,if_neg hd]⟩;have h1:=V5 (i:=i) h;have h2:=ug m n i;unfold ae at*;omega
def BB(m n i j:Nat):zu m n (i+1) j=if j=i then(m-n)/ae^i%ae else zu m n i j:=by
 unfold zu
 by_cases e:j=i
 ·subst e;rw[if_pos (by omega),if_pos rfl]
 ·rw[if_neg e]
  by_cases c:j<i
  ·rw[if_pos c,if_pos (by omega)]
  ·rw[if_neg c,if_neg (by omega)]
def qdK(m n i:Nat):zu m n i i=m/ae^i%ae:=by unfold zu;rw[if_neg (by omega)]
def X9(m n:Nat):NV .u32 (ag ae m)++(NV .u32 (List.replicate (ag ae m).length 0)).drop (ag ae m).length=NV .u32 (row (ag ae m).length (zu m n 0)):=by
 rw[Vz,MN]
 congr 1
 rw[bG (g:=fun j=>m/ae^j%ae) (fun j _=>by unfold zu;rw[if_neg (by omega)]),<-zZ dH m];simp
def qae{m n:Nat}(h:n<=m):val ae (row (ag ae m).length (zu m n (ag ae m).length))=m-n:=by
 rw[bG (g:=fun j=>(m-n)/ae^j%ae) (fun j hj=>by unfold zu;rw[if_pos hj]),pV ae (by decide),Nat.mod_eq_of_lt]
 have h1:=eQ dH m;omega
def qdL(m n i j:Nat):zu m n i j<ae:=by unfold zu;split<;>exact aU _
def qA(m n i:Nat):Nat:=m%ae^i*n
def yP(m n i k:Nat):Nat:=(qA m n i/ae^i%ae^k+m/ae^i%ae*(n%ae^k))/ae^k
def Dy(m n i k:Nat):Nat:=yP m n i k+qA m n i/ae^(i+k)%ae+m/ae^i%ae*(n/ae^k%ae)
def F9(m n i k j:Nat):Nat:=if j<i+k then qA m n (i+1)/ae^j%ae else qA m n i/ae^j%ae
def Ah(m n i j:Nat):Nat:=qA m n i/ae^j%ae
def Ny(m n i:Nat):qA m n (i+1)=qA m n i+ae^i*(m/ae^i%ae*n):=by
 unfold qA;rw[Nat.pow_succ,Nat.mod_mul,Nat.add_mul,Nat.mul_assoc]
def Nz(m n i:Nat):yP m n i 0=0:=by simp[yP,Nat.mod_one]
def Pg(m n i k:Nat):yP m n i k<ae:=by
 unfold yP;rw[Nat.div_lt_iff_lt_mul (dB k)];have h1:=Nat.mod_lt (qA m n i/ae^i) (dB k);have h2:=Nat.mod_lt n (dB k);have h3:m/ae^i%ae+1<=ae:=Nat.mod_lt _ (by decide);have h4:(m/ae^i%ae)*(n%ae^k)<=(m/ae^i%ae)*(ae^k):=Nat.mul_le_mul_left _ (by omega);have h5:(m/ae^i%ae+1)*ae^k<=ae*ae^k:=Nat.mul_le_mul_right _ h3;rw[Nat.add_mul] at h5;omega
def Ph(p q:Nat):p%ae*(q%ae)<=18446744065119617025:=by
 have h1:p%ae<=4294967295:=(by have:=aU p;omega);have h2:q%ae<=4294967295:=(by have:=aU q;omega);exact Nat.mul_le_mul h1 h2
def EG(m n i k:Nat):Dy m n i k<18446744073709551616:=by
 have h1:=Pg m n i k;have h2:=aU (qA m n i/ae^(i+k));have h3:=Ph (m/ae^i) (n/ae^k);unfold Dy ae at*;omega
def Ai(V i k:Nat):V/ae^(i+k)=V/ae^i/ae^k:=by rw[Nat.pow_add,Nat.div_div_eq_div_mul]
def JU(m n i k:Nat):Dy m n i k/2^32=yP m n i (k+1):=by
 show _/ae=_;unfold Dy yP;rw[Ai,Nat.pow_succ,Nat.mod_mul,Nat.mod_mul,<-Nat.div_div_eq_div_mul]
 congr 1
 generalize m/ae^i%ae=dd
 generalize qA m n i/ae^i=A
 have e:A%ae^k+ae^k*(A/ae^k%ae)+dd*(n%ae^k+ae^k*(n/ae^k%ae))=(A%ae^k+dd*(n%ae^k))+ae^k*(A/ae^k%ae+dd*(n/ae^k%ae)):=(by grind);rw[e,Nat.add_mul_div_left _ _ (dB k)];omega
def Rf(m n i k:Nat):Dy m n i k%4294967296=qA m n (i+1)/ae^(i+k)%ae:=by
 show _%ae=_;unfold Dy yP;rw[Ai,Ai,Ny,Nat.add_mul_div_left _ _ (dB i)]
 generalize m/ae^i%ae=dd
 generalize qA m n i/ae^i=A
 have e:A+dd*n=(A%ae^k+dd*(n%ae^k))+ae^k*(A/ae^k+dd*(n/ae^k)):=by
  have h1:=Nat.mod_add_div A (ae^k);have h2:=Nat.mod_add_div n (ae^k)
  conv=>lhs;rw[<-h1,<-h2]
  grind
 conv=>rhs;rw[e]
 rw[Nat.add_mul_div_left _ _ (dB k)]
 generalize(A%ae^k+dd*(n%ae^k))/ae^k=c
 generalize A/ae^k=p
 generalize n/ae^k=q
 have e2:∀x y z w:Nat,(x+y%ae+z*(w%ae))%ae=(x+(y+z*w))%ae:=by
  intro x y z w;have h1:=Nat.mod_add_div y ae;have h2:=Nat.mod_add_div w ae;have:x+(y+z*w)=(x+y%ae+z*(w%ae))+ae*(y/ae+z*(w/ae)):=by
   conv=>lhs;rw[<-h1,<-h2]
   grind
  rw[this,Nat.add_mul_mod_self_left]
 exact e2 c p dd q
def V6(m n i k:Nat):F9 m n i k (i+k)=qA m n i/ae^(i+k)%ae:=by unfold F9;rw[if_neg (by omega)]
def NC(m n i k j:Nat):F9 m n i (k+1) j=if j=i+k then Dy m n i k%4294967296 else F9 m n i k j:=by
 rw[Rf];unfold F9
 by_cases e:j=i+k
 ·subst e;rw[if_pos (by omega),if_pos rfl]
 ·rw[if_neg e]
  by_cases c:j<i+k
  ·rw[if_pos c,if_pos (by omega)]
  ·rw[if_neg c,if_neg (by omega)]
def ND(m n i j:Nat):F9 m n i 0 j=Ah m n i j:=by
 unfold F9 Ah
 split
 ·rename_i h
  rw[Ny];have e0:ae^i=ae^j*(ae*ae^(i-j-1)):=by
   rw[<-Nat.mul_assoc,<-Nat.pow_succ,<-Nat.pow_add,show j+1+(i-j-1)=i by omega]
  have e:ae^i*(m/ae^i%ae*n)=ae^j*(ae*(ae^(i-j-1)*(m/ae^i%ae*n))):=by
   generalize m/ae^i%ae*n=r
   rw[e0,Nat.mul_assoc,Nat.mul_assoc]
  rw[e,Nat.add_mul_div_left _ _ (dB j),Nat.add_mul_mod_self_left]
 ·rfl
def IV(m n i:Nat):qA m n i<ae^(i+(ag ae n).length):=by
 unfold qA;rw[Nat.pow_add];have h1:=Nat.mod_lt m (dB i);have h2:=eQ dH n
 calc m%ae^i*n<=ae^i*n:=Nat.mul_le_mul_right _ (by omega)
  _<ae^i*ae^(ag ae n).length:=(Nat.mul_lt_mul_left (dB i)).2 h2
def qaf(m n i:Nat):yP m n i (ag ae n).length%4294967296=qA m n (i+1)/ae^(i+(ag ae n).length)%ae:=by
 have h:=Rf m n i (ag ae n).length;unfold Dy at h;rw[oU (Nat.le_refl _),Nat.div_eq_of_lt (IV m n i)] at h
 simpa using h
def NE(m n i j:Nat):Ah m n (i+1) j=if j=i+(ag ae n).length then yP m n i (ag ae n).length%4294967296 else F9 m n i (ag ae n).length j:=by
 rw[qaf];unfold F9 Ah
 by_cases e:j=i+(ag ae n).length
 ·subst e;rw[if_pos rfl]
 ·rw[if_neg e]
  by_cases c:j<i+(ag ae n).length
  ·rw[if_pos c]
  ·rw[if_neg c];have h1:ae^(i+(ag ae n).length)<=ae^j:=Nat.pow_le_pow_right (by decide) (by omega);have h2:ae^(i+1+(ag ae n).length)<=ae^j:=Nat.pow_le_pow_right (by decide) (by omega);rw[Nat.div_eq_of_lt (Nat.lt_of_lt_of_le (IV m n i) h1),Nat.div_eq_of_lt (Nat.lt_of_lt_of_le (IV m n (i+1)) h2)]
def NF(m n j:Nat):Ah m n 0 j=0:=by simp[Ah,qA,Nat.mod_one]
def Rh(m n:Nat):val ae (row ((ag ae m).length+(ag ae n).length+1) (Ah m n (ag ae m).length))=m*n:=by
 have e:qA m n (ag ae m).length=m*n:=(by unfold qA;rw[Nat.mod_eq_of_lt (eQ dH m)]);have h:=IV m n (ag ae m).length;rw[bG (g:=fun j=>m*n/ae^j%ae) (fun j hj=>by unfold Ah;rw[e]),pV ae (by decide),Nat.mod_eq_of_lt];rw[e] at h;exact Nat.lt_of_lt_of_le h (Nat.pow_le_pow_right (by decide) (by omega))
def V7(m n i j:Nat):Ah m n i j<ae:=aU _
def Ya{m n:Nat}(h:((m*n/18446744073709551616:Nat):Int)=0):m*n%18446744073709551616=m*n:=by omega
def Ri(m n i k:Nat):qA m n i/ae^(i+k)%ae+m/ae^i%ae*(n/ae^k%ae)<18446744073709551616:=by
 have:=EG m n i k;unfold Dy at this;omega
def NG(m n i k:Nat):((yP m n i k:Nat):Int)+((qA m n i/ae^(i+k)%ae+m/ae^i%ae*(n/ae^k%ae):Nat):Int)=((Dy m n i k:Nat):Int):=by
 unfold Dy;rw[<-Int.natCast_add,Nat.add_assoc]
def Pi(m y p j:Nat):Nat:=if j<p then m/ae^j%ae else m/y/ae^j%ae
def qdM(m y q:Nat):Pi m y (q+1) q=m/ae^q%ae:=by unfold Pi;rw[if_pos (by omega)]
def qag(m q:Nat):m/ae^q=m/ae^(q+1)*ae+m/ae^q%ae:=by
 rw[Nat.pow_succ,<-Nat.div_div_eq_div_mul];have:=Nat.div_add_mod (m/ae^q) ae;rw[Nat.mul_comm] at this;omega
def H8(m y q:Nat):Nat:=m/ae^(q+1)%y*ae+m/ae^q%ae
def V8(m y q:Nat)(hy:0<y):m/ae^q=y*(m/ae^(q+1)/y*ae)+H8 m y q:=by
 have h1:=qag m q;have h2:=Nat.div_add_mod (m/ae^(q+1)) y;unfold H8
 conv=>lhs;rw[h1,<-h2]
 rw[Nat.add_mul,Nat.mul_assoc,Nat.add_assoc]
def Pj(m y q:Nat)(hy:0<y):H8 m y q<y*ae:=by
 unfold H8;have h1:m/ae^(q+1)%y+1<=y:=Nat.mod_lt _ hy;have h2:m/ae^q%ae<ae:=Nat.mod_lt _ (by decide);have h3:=Nat.mul_le_mul_right ae h1;rw[Nat.add_mul] at h3;omega
def Yb(m y q:Nat)(hy:0<y)(hy2:y<4294967296):H8 m y q<18446744073709551616:=by
 have h1:=Pj m y q hy;have h2:y*ae<=4294967295*ae:=Nat.mul_le_mul_right _ (by omega);have e:(ae:Nat)=4294967296:=rfl;rw[e] at h1 h2;omega
def Rj(m y q:Nat)(hy:0<y):H8 m y q/y=m/y/ae^q%ae:=by
 have h1:=V8 m y q hy;have h2:H8 m y q/y<ae:=(by rw[Nat.div_lt_iff_lt_mul hy,Nat.mul_comm];exact Pj m y q hy);have e:m/y/ae^q=m/ae^q/y:=(by rw[Nat.div_div_eq_div_mul,Nat.div_div_eq_div_mul,Nat.mul_comm]);rw[e,h1,Nat.mul_add_div hy,Nat.mul_comm _ ae,Nat.mul_add_mod,Nat.mod_eq_of_lt h2]
def Rk(m y q:Nat)(hy:0<y):H8 m y q%y=m/ae^q%y:=by
 have h1:=V8 m y q hy
 conv=>rhs;rw[h1]
 rw[Nat.mul_add_mod]
def Yc(m y q j:Nat)(hy:0<y):Pi m y q j=if j=q then H8 m y q/y%4294967296 else Pi m y (q+1) j:=by
 rw[Rj m y q hy];show _=if j=q then _%ae else _
 rw[Nat.mod_mod];unfold Pi
 by_cases e:j=q
 ·subst e;rw[if_neg (by omega),if_pos rfl]
 ·rw[if_neg e]
  by_cases c:j<q
  ·rw[if_pos c,if_pos (by omega)]
  ·rw[if_neg c,if_neg (by omega)]
def Uz(m y:Nat):ag ae m=row (ag ae m).length (Pi m y (ag ae m).length):=by
 conv=>lhs;rw[zZ dH m]
 exact bG fun j hj=>by unfold Pi;rw[if_pos hj]
def UA(m y:Nat):m/ae^(ag ae m).length%y=0:=by
 rw[Nat.div_eq_of_lt (eQ dH m)];simp
def qdN(m y j:Nat):Nat:=m/y/ae^j%ae
def qah(m y:Nat):val ae (row (ag ae m).length (qdN m y))=m/y:=by
 unfold qdN;rw[pV ae (by decide),Nat.mod_eq_of_lt];exact Nat.lt_of_le_of_lt (Nat.div_le_self _ _) (eQ dH m)
def Pm(m s i:Nat):Nat:=m%ae^i*2^s
def NH(m s i j:Nat):Nat:=Pm m s i/ae^j%ae
def H9(m s i:Nat):Nat:=m/ae^i%ae*2^s
def JV(m s i:Nat):Pm m s (i+1)=Pm m s i+ae^i*H9 m s i:=by
 unfold Pm H9;rw[Nat.pow_succ,Nat.mod_mul,Nat.add_mul,Nat.mul_assoc]
def yQ{s:Nat}(hs:s<32):2^s<=2147483648:=Nat.pow_le_pow_right (n:=2) (by omega) (show s<=31 by omega)
def qgY(m s i:Nat)(hs:s<32):H9 m s i<18446744073709551616:=by
 unfold H9;have h1:=aU (m/ae^i);have h2:=yQ hs;have:m/ae^i%ae*2^s<=4294967295*2147483648:=Nat.mul_le_mul (by omega) h2;omega
def Pn(m s i:Nat):Pm m s i/ae^i<2^s:=by
 rw[Nat.div_lt_iff_lt_mul (dB i)];unfold Pm;rw[Nat.mul_comm];exact(Nat.mul_lt_mul_left (Nat.pow_pos (by omega))).2 (Nat.mod_lt _ (dB i))
def wG{s:Nat}(hs:s<32):ae=2^s*2^(32-s):=by rw[<-Nat.pow_add,show s+(32-s)=32 by omega];rfl
def V9(m s i:Nat)(hs:s<32):H9 m s i%4294967296=2^s*(m/ae^i%ae%2^(32-s)):=by
 show _%ae=_;unfold H9
 conv=>lhs;rw[wG hs]
 rw[Nat.mul_comm _ (2^s),Nat.mul_mod_mul_left]
 congr 1
 rw[<-wG hs]
def qai(m s i:Nat)(hs:s<32):NH m s i i=Pm m s i/ae^i:=by
 unfold NH;have h1:=Pn m s i;have h2:=yQ hs;exact Nat.mod_eq_of_lt (by unfold ae at*;omega)
def qaj(m s i:Nat)(hs:s<32):Pm m s i/ae^i+H9 m s i%4294967296<4294967296∧NH m s (i+1) i=Pm m s i/ae^i+H9 m s i%4294967296:=by
 have h1:=Pn m s i;have e:=V9 m s i hs;have h3:m/ae^i%ae%2^(32-s)+1<=2^(32-s):=Nat.mod_lt _ (Nat.pow_pos (by omega));have h4:=Nat.mul_le_mul_left (2^s) h3;have hB:=wG hs;rw[<-hB,Nat.mul_add] at h4;have hlt:Pm m s i/ae^i+H9 m s i%4294967296<4294967296:=(by rw[e];unfold ae at*;omega);refine⟨hlt,?_⟩;unfold NH;rw[JV,Nat.add_mul_div_left _ _ (dB i)];have:Pm m s i/ae^i+H9 m s i=(Pm m s i/ae^i+H9 m s i%ae)+ae*(H9 m s i/ae):=by
  have:=Nat.mod_add_div (H9 m s i) ae;omega
 rw[this,Nat.add_mul_mod_self_left];exact Nat.mod_eq_of_lt hlt
def qdO(m s i:Nat)(hs:s<32):NH m s (i+1) (i+1)=H9 m s i/2^32%4294967296:=by
 have h0:=(qaj m s i hs).1;unfold NH;rw[JV,Nat.pow_succ,<-Nat.div_div_eq_div_mul,Nat.add_mul_div_left _ _ (dB i)];have:Pm m s i/ae^i+H9 m s i=(Pm m s i/ae^i+H9 m s i%ae)+ae*(H9 m s i/ae):=by
  have:=Nat.mod_add_div (H9 m s i) ae;omega
 have h0':Pm m s i/ae^i+H9 m s i%ae<ae:=h0;rw[this,Nat.add_mul_div_left _ _ (by decide),Nat.div_eq_of_lt h0',Nat.zero_add]
 rfl
def qgZ(m s i:Nat):Pm m s i<ae^i*2^s:=(Nat.mul_lt_mul_right (Nat.pow_pos (by omega))).2 (Nat.mod_lt _ (dB i))
def shM(m s i j:Nat):Nat:=if j=i then NH m s (i+1) i else NH m s i j
def qak(m s i j:Nat)(hs:s<32):NH m s (i+1) j=if j=i+1 then H9 m s i/2^32%4294967296 else shM m s i j:=by
 by_cases e:j=i+1
 ·subst e;rw[if_pos rfl,qdO m s i hs]
 ·rw[if_neg e];unfold shM
  by_cases e2:j=i
  ·subst e2;rw[if_pos rfl]
  ·rw[if_neg e2];unfold NH
   by_cases c:j<i
   ·rw[JV];have e0:ae^i=ae^j*(ae*ae^(i-j-1)):=by
     rw[<-Nat.mul_assoc,<-Nat.pow_succ,<-Nat.pow_add,show j+1+(i-j-1)=i by omega]
    rw[e0,Nat.mul_assoc,Nat.add_mul_div_left _ _ (dB j),Nat.mul_assoc,Nat.add_mul_mod_self_left]
   ·have h2:=yQ hs;have h3:ae^(i+2)<=ae^j:=Nat.pow_le_pow_right (by decide) (by omega);have key:∀k,k<=i+1->Pm m s k/ae^j=0:=fun k hk=>Nat.div_eq_of_lt (by
 have h4:=qgZ m s k;have h5:ae^k*2^s<=ae^(i+1)*ae:=Nat.mul_le_mul (Nat.pow_le_pow_right (by decide) hk) (by unfold ae;omega);rw[<-Nat.pow_succ] at h5;have h6:ae^(i+1).succ=ae^(i+2):=rfl;omega)
    rw[key (i+1) (by omega),key i (by omega)]
def qal(m s j:Nat):NH m s 0 j=0:=by simp[NH,Pm,Nat.mod_one]
def Aj(N j:Nat):Nat:=N/ae^j%ae
def qdP(m s j:Nat):NH m s (ag ae m).length j=Aj (m*2^s) j:=by
 unfold NH Aj Pm;rw[Nat.mod_eq_of_lt (eQ dH m)]
def qi4(m s i:Nat)(hs:s<32):IntKind.u32.wrap ((BitVec.ofInt IntKind.u32.bits ((NH m s i i:Nat):Int)|||BitVec.ofInt IntKind.u32.bits ((H9 m s i%4294967296:Nat):Int)).toNat)=((NH m s (i+1) i:Nat):Int):=by
 obtain⟨h1,h2⟩:=qaj m s i hs;rw[<-qai m s i hs] at h1 h2;have e:=V9 m s i hs;rw[e] at h1 h2 ⊢;exact VQ s (by rw[qai m s i hs];exact Pn m s i) h2.symm (by rw[h2];exact h1) rfl rfl
def nz(k:Nat):ae^(k+1)=ae^k*ae:=Nat.pow_succ ..
def GOK(Y W L g r:Nat):Prop:=g*(Y/ae^(L-1))+r=W/ae^(L-1)∧r<4294967296∧W/Y<=g∧g<=4294967297
def xe(V L:Nat)(hL:2<=L):V=(V/ae^(L-1)*ae+V/ae^(L-2)%ae)*ae^(L-2)+V%ae^(L-2):=by
 have h1:=Nat.div_add_mod V (ae^(L-2));have h2:=qag V (L-2);rw[show L-2+1=L-1 by omega] at h2;rw[<-h2,Nat.mul_comm];exact h1.symm
structure Dz(Y W L:Nat):Prop where
 hL:2<=L
 lo:ae^L<=2*Y
 hi:Y<ae^L
 w:W<Y*ae
def Dz.y1{Y W L:Nat}(h:Dz Y W L):2147483648<=Y/ae^(L-1)∧Y/ae^(L-1)<4294967296:=by
 have hp:=dB (L-1);have e:ae^L=ae^(L-1)*ae:=(by rw[<-nz,show L-1+1=L by have:=h.hL;omega]);have h1:=h.lo;have h2:=h.hi;rw[e] at h1 h2;refine⟨?_,?_⟩
 ·rw[Nat.le_div_iff_mul_le hp];have:ae^(L-1)*ae=2*(2147483648*ae^(L-1)):=by unfold ae;omega
  omega
 ·rw[Nat.div_lt_iff_lt_mul hp];rw[Nat.mul_comm] at h2;exact h2
def Dz.pos{Y W L:Nat}(h:Dz Y W L):0<Y:=by have:=h.lo;have:=dB L;omega
def Dz.wlt{Y W L:Nat}(h:Dz Y W L):W<ae^(L+1):=by
 have:=Nat.mul_le_mul_right ae (Nat.le_of_lt h.hi);rw[nz];exact Nat.lt_of_lt_of_le h.w this
def Dz.high{Y W L:Nat}(h:Dz Y W L):W/ae^(L-1)<(Y/ae^(L-1)+1)*ae:=by
 refine qc7 (B:=ae) (xe Y L h.hL) (xe W L h.hL) (Nat.mod_lt _ (dB _)) (Nat.mod_lt _ (by decide)) (by rw[Nat.mul_comm];exact h.w)
def Dz.high64{Y W L:Nat}(h:Dz Y W L):W/ae^(L-1)<18446744073709551616:=by
 have h1:=h.wlt;rw[Nat.div_lt_iff_lt_mul (dB _)];have:ae^(L+1)=18446744073709551616*ae^(L-1):=by
  rw[show L+1=2+(L-1) by have:=h.hL;omega,Nat.pow_add];rfl
 omega
def Dz.q{Y W L:Nat}(h:Dz Y W L):W/Y<4294967296:=by
 rw[Nat.div_lt_iff_lt_mul h.pos,Nat.mul_comm];exact h.w
def qdQ{Y W L:Nat}(h:Dz Y W L):GOK Y W L (W/ae^(L-1)/(Y/ae^(L-1))) (W/ae^(L-1)% (Y/ae^(L-1))):=by
 obtain⟨a1,a2⟩:=h.y1;have a3:=Nat.mod_lt (W/ae^(L-1)) (show 0<Y/ae^(L-1) by omega);refine⟨by rw[Nat.mul_comm];exact Nat.div_add_mod _ _,by omega,?_,?_⟩
 ·exact QO (B:=ae) (dB (L-2)) (xe Y L h.hL) (xe W L h.hL) (Nat.mod_lt _ (dB _)) (Nat.mod_lt _ (by decide)) (by omega) h.pos
 ·have h1:=h.high;have:W/ae^(L-1)/(Y/ae^(L-1))<4294967298:=by
   rw[Nat.div_lt_iff_lt_mul (by omega)];unfold ae at*;omega
  omega
def qam{Y W L g r:Nat}(h:Dz Y W L)(hg:GOK Y W L g r)(ht:4294967296<=g∨r*2^32+W/ae^(L-2)%ae<g*(Y/ae^(L-2)%ae)):
 W/Y<g:=by
 rcases ht with ht|ht
 ·have:=h.q;omega
 ·exact Uj (B:=ae) (dB (L-2)) (xe Y L h.hL) (xe W L h.hL) (Nat.mod_lt _ (dB _)) hg.1 h.pos ht
def qfM{Y W L g r:Nat}(h:Dz Y W L)(hg:GOK Y W L g r)(hq:W/Y<g):(g-1)*(Y/ae^(L-1))+(r+Y/ae^(L-1))=W/ae^(L-1):=by
 have h0:0<g:=Nat.lt_of_le_of_lt (Nat.zero_le _) hq;obtain⟨k,rfl⟩:∃k,g=k+1:=⟨g-1,by omega⟩;have:=hg.1;rw[Nat.add_mul] at this;simp only[Nat.add_sub_cancel];omega
def qan{Y W L g r:Nat}(h:Dz Y W L)(hg:GOK Y W L g r)(hq:W/Y<g)(hr:r+Y/ae^(L-1)<4294967296):GOK Y W L (g-1) (r+Y/ae^(L-1)):=
 ⟨qfM h hg hq,hr,by omega,by have:=hg.2.2.2;omega⟩
def qg0{Y W L g r:Nat}(h:Dz Y W L)(hg:GOK Y W L g r)(hB:g<4294967296)(ht:g*(Y/ae^(L-2)%ae)<=r*2^32+W/ae^(L-2)%ae):g<=W/Y+1:=by
 obtain⟨a1,a2⟩:=h.y1;exact MZ (B:=ae) (xe Y L h.hL) (xe W L h.hL) (Nat.mod_lt _ (dB _)) (by omega) (Nat.mod_lt _ (by decide)) hg.1 h.pos (by unfold ae;omega) (.inl ht)
def qao{Y W L g r:Nat}(h:Dz Y W L)(hg:GOK Y W L g r)(hq:W/Y<g)(hr:4294967296<=r+Y/ae^(L-1)):g-1<=W/Y+1:=by
 obtain⟨a1,a2⟩:=h.y1;have:=hg.2.2.2;exact MZ (B:=ae) (xe Y L h.hL) (xe W L h.hL) (Nat.mod_lt _ (dB _)) (by omega) (Nat.mod_lt _ (by decide)) (qfM h hg hq) h.pos (by unfold ae;omega) (.inr hr)
def gC(Y g i:Nat):Nat:=g*(Y%ae^i)/ae^i
def gS(Y g i:Nat):Nat:=gC Y g i+g*(Y/ae^i%ae)
def Po(Y g:Nat):gC Y g 0=0:=by simp[gC,Nat.mod_one]
def G7(Y g i:Nat)(hg:g<=4294967296):gC Y g i<=4294967295:=by
 unfold gC;have h1:=Nat.mod_lt Y (dB i);have:g*(Y%ae^i)/ae^i<4294967296:=by
  rw[Nat.div_lt_iff_lt_mul (dB i)];have h2:g*(Y%ae^i)<=4294967296*(Y%ae^i):=Nat.mul_le_mul_right _ hg;omega
 omega
def NI(Y g i:Nat)(hg:g<=4294967296):gS Y g i<18446744073709551616∧g*(Y/ae^i%ae)<18446744073709551616:=by
 unfold gS;have h1:=G7 Y g i hg;have h2:=aU (Y/ae^i);have h3:g*(Y/ae^i%ae)<=4294967296*4294967295:=Nat.mul_le_mul hg (by omega);omega
def JW(Y g i:Nat):gS Y g i/2^32=gC Y g (i+1):=by
 show _/ae=_;unfold gS gC;rw[nz,Nat.mod_mul,<-Nat.div_div_eq_div_mul]
 congr 1
 have e:g*(Y%ae^i+ae^i*(Y/ae^i%ae))=g*(Y%ae^i)+ae^i*(g*(Y/ae^i%ae)):=(by grind);rw[e,Nat.add_mul_div_left _ _ (dB i)]
def UB(Y g i:Nat):gS Y g i%4294967296=g*Y/ae^i%ae:=by
 show _%ae=_;have e:g*Y=g*(Y%ae^i)+ae^i*(g*(Y/ae^i)):=by
  have h1:=Nat.mod_add_div Y (ae^i)
  conv=>lhs;rw[<-h1]
  grind
 rw[e,Nat.add_mul_div_left _ _ (dB i)];unfold gS gC
 generalize g*(Y%ae^i)/ae^i=c
 generalize Y/ae^i=p
 rw[Nat.add_mod,<-Nat.mul_mod_mod,Nat.mod_mod,Nat.mul_mod_mod,<-Nat.add_mod]
def ji(Y W L g:Nat):Nat:=W+ae^(L+1)-g*Y
def qap{Y W L g:Nat}(h:Dz Y W L)(hg1:g<=W/Y+1):g*Y<=W+ae^(L+1):=by
 have h1:=Nat.mul_le_mul_right Y hg1;have h2:=Nat.div_mul_le_self W Y;rw[Nat.add_mul] at h1;have h3:=h.hi;have h4:ae^L<=ae^(L+1):=Nat.pow_le_pow_right (by decide) (by omega);omega
def JX{W L i:Nat}(hi:i<=L):(W+ae^(L+1))/ae^i%ae=W/ae^i%ae:=by
 have e:ae^(L+1)=ae^i*(ae*ae^(L-i)):=by
  rw[<-Nat.mul_assoc,<-nz,<-Nat.pow_add,show i+1+(L-i)=L+1 by omega]
 rw[e,Nat.add_mul_div_left _ _ (dB i),Nat.add_mul_mod_self_left]
def G8(X W D j i k:Nat):Nat:=if k<j then X/ae^k%ae else if k<j+i then D/ae^(k-j)%ae else W/ae^(k-j)%ae
def Gf(X W D j i:Nat):G8 X W D j i (i+j)=W/ae^i%ae:=by
 unfold G8;rw[if_neg (by omega),if_neg (by omega),show i+j-j=i by omega]
def pY(X W D j i k:Nat):G8 X W D j (i+1) k=if k=i+j then D/ae^i%ae else G8 X W D j i k:=by
 unfold G8
 by_cases e:k=i+j
 ·subst e;rw[if_neg (by omega),if_pos (by omega),if_pos rfl,show i+j-j=i by omega]
 ·rw[if_neg e]
  by_cases c:k<j
  ·rw[if_pos c,if_pos c]
  ·rw[if_neg c,if_neg c]
   by_cases c2:k<j+i
   ·rw[if_pos c2,if_pos (by omega)]
   ·rw[if_neg c2,if_neg (by omega)]
def xw(X j V k:Nat):Nat:=if k<j then X/ae^k%ae else V/ae^(k-j)%ae
def dvW(X Y j:Nat):Nat:=X/ae^(j+1)%Y*ae+X/ae^j%ae
def qg1(X Y j:Nat)(hy:0<Y):dvW X Y j<Y*ae:=Pj X Y j hy
def Rn(X Y D j k:Nat):xw X (j+1) (X/ae^(j+1)%Y) k=G8 X (dvW X Y j) D j 0 k:=by
 unfold xw G8 dvW
 by_cases c:k<j
 ·rw[if_pos (by omega),if_pos c]
 ·rw[if_neg c,if_neg (by omega:¬k<j+0)]
  by_cases e:k=j
  ·subst e;rw[if_pos (by omega),Nat.sub_self,Nat.pow_zero,Nat.div_one,Nat.mul_comm,Nat.mul_add_mod,Nat.mod_mod]
  ·rw[if_neg (by omega)];obtain⟨q,rfl⟩:∃q,k=j+1+q:=⟨k-j-1,by omega⟩;rw[show j+1+q-(j+1)=q by omega,show j+1+q-j=q+1 by omega];have:(X/ae^(j+1)%Y*ae+X/ae^j%ae)/ae=X/ae^(j+1)%Y:=by
    rw[Nat.mul_comm,Nat.mul_add_div (by decide),Nat.div_eq_of_lt (Nat.mod_lt _ (by decide))];omega
   have e2:ae^(q+1)=ae*ae^q:=Nat.pow_succ';rw[e2,<-Nat.div_div_eq_div_mul (X/ae^(j+1)%Y*ae+X/ae^j%ae),this]
def qdS(X Y j:Nat)(hy:0<Y):dvW X Y j/Y=X/Y/ae^j%ae:=Rj X Y j hy
def qdT(X Y j:Nat)(hy:0<Y):dvW X Y j%Y=X/ae^j%Y:=Rk X Y j hy
def Pq{X Y W L g j k:Nat}(h:Dz Y W L)(hg:g=W/Y):G8 X W (ji Y W L g) j (L+1) k=xw X j (W%Y) k:=by
 unfold G8 xw
 by_cases c:k<j
 ·rw[if_pos c,if_pos c]
 ·rw[if_neg c,if_neg c];have hD:ji Y W L g=W%Y+ae^(L+1):=by
   unfold ji;subst hg;have:=Nat.div_add_mod W Y;rw[Nat.mul_comm] at this;omega
  have hr:=Nat.mod_lt W h.pos
  by_cases c2:k<j+(L+1)
  ·rw[if_pos c2,hD,JX (by omega)]
  ·rw[if_neg c2];have h1:ae^(L+1)<=ae^(k-j):=Nat.pow_le_pow_right (by decide) (by omega);have h2:=h.wlt;have h3:=h.hi;have h4:ae^L<=ae^(L+1):=Nat.pow_le_pow_right (by decide) (by omega);rw[Nat.div_eq_of_lt (by omega),Nat.div_eq_of_lt (by omega)]
def Qv(X Y W D L j i k:Nat):Nat:=if k<j then X/ae^k%ae else if k<j+i then(D+Y)/ae^(k-j)%ae else if k<j+(L+1) then D/ae^(k-j)%ae else W/ae^(k-j)%ae
def JY(X Y W D L j k:Nat):G8 X W D j (L+1) k=Qv X Y W D L j 0 k:=by
 unfold G8 Qv
 by_cases c:k<j
 ·rw[if_pos c,if_pos c]
 ·rw[if_neg c,if_neg c,if_neg (by omega:¬k<j+0)]
def Gg(X Y W D L j i:Nat)(hi:i<=L):Qv X Y W D L j i (i+j)=D/ae^i%ae:=by
 unfold Qv;rw[if_neg (by omega),if_neg (by omega),if_pos (by omega),show i+j-j=i by omega]
def xW(X Y W D L j i k:Nat):Qv X Y W D L j (i+1) k=if k=i+j then ny D Y i%4294967296 else Qv X Y W D L j i k:=by
 rw[Q9];unfold Qv
 by_cases e:k=i+j
 ·subst e;rw[if_neg (by omega),if_pos (by omega),if_pos rfl,show i+j-j=i by omega]
 ·rw[if_neg e]
  by_cases c:k<j
  ·rw[if_pos c,if_pos c]
  ·rw[if_neg c,if_neg c]
   by_cases c2:k<j+i
   ·rw[if_pos c2,if_pos (by omega)]
   ·rw[if_neg c2,if_neg (by omega)]
def UC{X Y W L g j k:Nat}(h:Dz Y W L)(hg:g=W/Y+1):Qv X Y W (ji Y W L g) L j (L+1) k=xw X j (W%Y) k:=by
 have e:ji Y W L g+Y=ji Y W L (W/Y):=by
  have h1:=qap h (g:=g) (by omega);unfold ji;subst hg;rw[Nat.add_mul] at h1 ⊢;omega
 rw[<-Pq (X:=X) (j:=j) (k:=k) h rfl,<-e];unfold Qv G8
 by_cases c:k<j
 ·rw[if_pos c,if_pos c]
 ·rw[if_neg c,if_neg c]
  by_cases c2:k<j+(L+1)
  ·rw[if_pos c2,if_pos c2]
  ·rw[if_neg c2,if_neg c2,if_neg c2]
def UD(D Y L:Nat)(hY:Y<ae^L):(D/ae^L%ae+nT D Y L%4294967296)%4294967296=ny D Y L%4294967296:=by
 rw[yN,show Y/ae^L%ae=0 by rw[Nat.div_eq_of_lt hY];rfl];omega
def UE{Y W L g:Nat}(h:Dz Y W L)(h1:g<=W/Y+1)(h2:W/Y<=g)(hb:jB (W+ae^(L+1)) (g*Y) (L+1)=1):g=W/Y+1:=by
 rcases Nat.lt_or_ge (W/Y) g with c|c
 ·omega
 ·exfalso
  have e:g=W/Y:=(by omega);subst e;unfold jB at hb;have h3:=Nat.div_mul_le_self W Y;have h4:=h.wlt;rw[Nat.add_mod_right,Nat.mod_eq_of_lt h4,Nat.mod_eq_of_lt (by omega),if_neg (by omega)] at hb;cases hb
def UF{Y W L g:Nat}(h:Dz Y W L)(h1:g<=W/Y+1)(h2:W/Y<=g)(hB:g<=4294967296)(hb:jB (W+ae^(L+1)) (g*Y) (L+1)=0):g=W/Y:=by
 rcases Nat.lt_or_ge (W/Y) g with c|c
 ·exfalso
  have e:g=W/Y+1:=(by omega);unfold jB at hb;have h3:=Nat.div_add_mod W Y;have h4:=h.wlt;have h5:=Nat.mod_lt W h.pos;have h6:g*Y<ae^(L+1):=by
   rw[nz,Nat.mul_comm];exact Nat.mul_lt_mul_of_lt_of_le h.hi hB (by decide)
  rw[Nat.add_mod_right,Nat.mod_eq_of_lt h4,Nat.mod_eq_of_lt h6] at hb;have h7:g*Y=Y*(W/Y)+Y:=by rw[e,Nat.add_mul,Nat.mul_comm,Nat.one_mul]
  rw[if_pos (by omega)] at hb;cases hb
 ·omega
def Pv{Y L g:Nat}(hY:Y<ae^L)(hB:g<=4294967296):gC Y g L=g*Y/ae^L%ae:=by
 have h1:gC Y g L=g*Y/ae^L:=(by unfold gC;rw[Nat.mod_eq_of_lt hY]);have h2:=G7 Y g L hB;rw[h1] at h2 ⊢;exact(Nat.mod_eq_of_lt (by unfold ae at*;omega)).symm
def qg2{n:Nat}(h0:n≠0):∃s,s<32∧(32-(Lib.bitLen (n/ae^((ag ae n).length-1)%ae):Int))=((s:Nat):Int)∧ae^(ag ae n).length<=2*(n*2^s)∧n*2^s<ae^(ag ae n).length:=by
 have hlt:=eQ dH n;have hl:0<(ag ae n).length:=by
  rcases Nat.eq_zero_or_pos (ag ae n).length with h|h
  ·exact absurd ((wo dH).1 (List.eq_nil_of_length_eq_zero h)) h0
  ·exact h
 generalize hL:(ag ae n).length=L at*
 obtain⟨k,rfl⟩:∃k,L=k+1:=⟨L-1,by omega⟩;simp only[Nat.add_sub_cancel];have hk:ae^k<=n:=by
  rcases Nat.lt_or_ge n (ae^k) with h|h
  ·have:=jG dH h;omega
  ·exact h
 have ht:n/ae^k<ae:=(by rw[Nat.div_lt_iff_lt_mul (dB k),Nat.mul_comm,<-nz];exact hlt);have ht0:0<n/ae^k:=Nat.div_pos hk (dB k);rw[Nat.mod_eq_of_lt ht];obtain⟨b1,b2,b3⟩:=wY (x:=n/ae^k) (Nat.lt_trans ht (by decide)) (by omega);have b4:Lib.bitLen (n/ae^k)<=32:=Lib.bitLen_le _ 32 (by omega) ht
 generalize Lib.bitLen (n/ae^k)=b at*
 refine⟨32-b,by omega,by omega,?_,?_⟩
 ·have h1:2^(b-1)*ae^k<=n:=by
   have:=Nat.mul_le_mul_right (ae^k) b2;exact Nat.le_trans this (Nat.div_mul_le_self _ _)
  have h2:=Nat.mul_le_mul_right (2^(32-b)) h1;have h3:2^(b-1)*ae^k*2^(32-b)*2=ae^(k+1):=by
   have e:2^(b-1)*2^(32-b)*2=ae:=by
    rw[<-Nat.pow_add,<-Nat.pow_succ,show(b-1+(32-b)).succ=32 by omega];rfl
   rw[nz,<-e];grind
  omega
 ·have h1:n<2^b*ae^k:=by
   exact Nat.lt_mul_of_div_lt b3 (dB k)
  have h2:=(Nat.mul_lt_mul_right (a:=2^(32-b)) (Nat.pow_pos (by omega))).2 h1;have h3:2^b*ae^k*2^(32-b)=ae^(k+1):=by
   have e:2^b*2^(32-b)=ae:=(by rw[<-Nat.pow_add,show b+(32-b)=32 by omega];rfl);rw[nz,<-e];grind
  omega
def qdU{m n s:Nat}(hs:s<32)(hlen:(ag ae n).length<=(ag ae m).length)(h1:ae^(ag ae n).length<=2*(n*2^s)):m*2^s/ae^((ag ae m).length+1-(ag ae n).length)<n*2^s:=by
 rw[Nat.div_lt_iff_lt_mul (dB _)];have h2:=eQ dH m;have h3:=yQ hs;have h4:m*2^s<=m*2147483648:=Nat.mul_le_mul_left _ h3;have h5:ae^(ag ae n).length*ae^((ag ae m).length+1-(ag ae n).length)=ae^(ag ae m).length*ae:=by
  rw[<-Nat.pow_add,<-nz];congr 1;omega
 have h6:=Nat.mul_le_mul_right (ae^((ag ae m).length+1-(ag ae n).length)) h1;rw[h5,Nat.mul_assoc] at h6;have h7:ae^(ag ae m).length*ae=2*(2147483648*ae^(ag ae m).length):=(by unfold ae;omega);omega
def qdV{X Y M k:Nat}(h:X/ae^M<Y):Aj X k=xw X M (X/ae^M%Y) k:=by
 unfold xw Aj;rw[Nat.mod_eq_of_lt h]
 split
 ·rfl
 ·rw[Nat.div_div_eq_div_mul,<-Nat.pow_add,show M+(k-M)=k by omega]
def Px{X Y W j:Nat}(hW:dvW X Y j=W)(k:Nat):xw X (j+1) (X/ae^(j+1)%Y) (k+j)=W/ae^k%ae:=by
 rw[Rn X Y 0 j,hW];unfold G8;rw[if_neg (by omega),if_neg (by omega),show k+j-j=k by omega]
def qaq{X Y W j:Nat}(hW:dvW X Y j=W)(D k:Nat):xw X (j+1) (X/ae^(j+1)%Y) k=G8 X W D j 0 k:=by
 rw[Rn X Y D j,hW]
def Dz.whigh{Y W L:Nat}(h:Dz Y W L):2^32*(W/ae^L%ae)+W/ae^(L-1)%ae=W/ae^(L-1):=by
 have h1:=qag W (L-1);rw[show L-1+1=L by have:=h.hL;omega] at h1;have h2:W/ae^L<ae:=(by rw[Nat.div_lt_iff_lt_mul (dB L),Nat.mul_comm,<-nz];exact h.wlt);rw[Nat.mod_eq_of_lt h2,Nat.mul_comm];exact h1.symm
def Dz.ytop{Y W L:Nat}(h:Dz Y W L):Aj Y (L-1)=Y/ae^(L-1):=by
 unfold Aj;exact Nat.mod_eq_of_lt h.y1.2
def qi5{p q:Nat}(hp:p<4294967296)(hq:q<4294967296):p*q<18446744073709551616:=by
 have:p*q<=4294967295*4294967295:=Nat.mul_le_mul (by omega) (by omega);omega
def DC{Y W L g i:Nat}(h:Dz Y W L)(hg1:g<=W/Y+1)(hi:i<=L)(hd:W/ae^i%ae<g*Y/ae^i%ae+jB (W+ae^(L+1)) (g*Y) i):
 W/ae^i%ae+4294967296=ji Y W L g/ae^i%ae+g*Y/ae^i%ae+jB (W+ae^(L+1)) (g*Y) i∧jB (W+ae^(L+1)) (g*Y) (i+1)=1:=by
 have:=O8 (i:=i) (qap h hg1) (by rw[JX hi];exact hd);rw[JX hi] at this;exact this
def DD{Y W L g i:Nat}(h:Dz Y W L)(hg1:g<=W/Y+1)(hi:i<=L)(hd:¬W/ae^i%ae<g*Y/ae^i%ae+jB (W+ae^(L+1)) (g*Y) i):
 W/ae^i%ae=ji Y W L g/ae^i%ae+g*Y/ae^i%ae+jB (W+ae^(L+1)) (g*Y) i∧jB (W+ae^(L+1)) (g*Y) (i+1)=0:=by
 have:=O9 (i:=i) (qap h hg1) (by rw[JX hi];exact hd);rw[JX hi] at this;exact this
def UG{Y W L g i:Nat}(h:Dz Y W L)(hg1:g<=W/Y+1)(hi:i<=L):IntKind.u32.wrap (((W/ae^i%ae:Nat):Int)-((jB (W+ae^(L+1)) (g*Y) i:Nat):Int)-((g*Y/ae^i%ae:Nat):Int))=((ji Y W L g/ae^i%ae:Nat):Int):=by
 rw[qcS];have hD:=aU (ji Y W L g/ae^i)
 by_cases c:W/ae^i%ae<g*Y/ae^i%ae+jB (W+ae^(L+1)) (g*Y) i
 ·have:=(DC h hg1 hi c).1
  generalize W/ae^i%ae=w at*
  generalize g*Y/ae^i%ae=p at*
  generalize ji Y W L g/ae^i%ae=d at*
  generalize jB (W+ae^(L+1)) (g*Y) i=b at*
  omega
 ·have:=(DD h hg1 hi c).1
  generalize W/ae^i%ae=w at*
  generalize g*Y/ae^i%ae=p at*
  generalize ji Y W L g/ae^i%ae=d at*
  generalize jB (W+ae^(L+1)) (g*Y) i=b at*
  omega
def l9(X Y p k:Nat):Nat:=if k<p then 0 else X/Y/ae^k%ae
def uu(X Y j k:Nat):l9 X Y j k=if k=j then X/Y/ae^j%ae else l9 X Y (j+1) k:=by
 unfold l9
 by_cases e:k=j
 ·subst e;rw[if_neg (by omega),if_pos rfl]
 ·rw[if_neg e]
  by_cases c:k<j
  ·rw[if_pos c,if_pos (by omega)]
  ·rw[if_neg c,if_neg (by omega)]
def qdW(X Y p k:Nat):l9 X Y p k<ae:=by unfold l9;split;decide;exact aU _
def qdX{m n s M:Nat}(h0:n≠0)(h:m*2^s/ae^M<n*2^s):val ae (row M (l9 (m*2^s) (n*2^s) 0))=m/n:=by
 have e:m*2^s/(n*2^s)=m/n:=Nat.mul_div_mul_right m n (Nat.pow_pos (by omega));rw[bG (g:=fun j=>m/n/ae^j%ae) (fun j _=>by unfold l9;rw[if_neg (by omega),e]),pV ae (by decide),Nat.mod_eq_of_lt];have hp:0<n*2^s:=Nat.mul_pos (by omega) (Nat.pow_pos (by omega));rw[<-e,Nat.div_lt_iff_lt_mul hp];rw[Nat.div_lt_iff_lt_mul (dB M)] at h;rw[Nat.mul_comm (n*2^s) (ae^M)] at h;exact h
def We(m n s k:Nat):xw (m*2^s) 0 (m*2^s/ae^0% (n*2^s)) k=m%n*2^s/ae^k%ae:=by
 unfold xw;rw[if_neg (by omega),Nat.sub_zero,Nat.pow_zero,Nat.div_one,Nat.mul_mod_mul_right]
def xX(r i k:Nat):Nat:=if k<i then r/ae^k%ae else 0
def UH(r k:Nat):xX r 0 k=0:=by simp[xX]
def UI(r i k:Nat):xX r (i+1) k=if k=i then r/ae^i%ae else xX r i k:=by
 unfold xX
 by_cases e:k=i
 ·subst e;rw[if_pos (by omega),if_pos rfl]
 ·rw[if_neg e]
  by_cases c:k<i
  ·rw[if_pos c,if_pos (by omega)]
  ·rw[if_neg c,if_neg (by omega)]
def qar(r i k:Nat):xX r i k<ae:=by unfold xX;split;exact aU _;decide
def qas{m n:Nat}(h0:n≠0):val ae (row (ag ae n).length (xX (m%n) (ag ae n).length))=m%n:=by
 rw[bG (g:=fun j=>m%n/ae^j%ae) (fun j hj=>by unfold xX;rw[if_pos hj]),pV ae (by decide),Nat.mod_eq_of_lt];exact Nat.lt_trans (Nat.mod_lt _ (by omega)) (eQ dH n)
def qdY(V i:Nat):2^32*(V/ae^(i+1)%ae)+V/ae^i%ae=V/ae^i% (ae*ae):=by
 rw[Nat.mod_mul,nz,<-Nat.div_div_eq_div_mul];show ae*_+_=_;omega
def qdZ(V i:Nat):V/ae^i% (ae*ae)<18446744073709551616:=Nat.mod_lt _ (by decide)
def qat{r s i:Nat}(hs:s<32):r*2^s/ae^i% (ae*ae)/2^s%4294967296=r/ae^i%ae:=by
 show _%ae=_;have hp:0<2^s:=Nat.pow_pos (by omega);have e:ae*ae=2^s*(ae*2^(32-s)):=by
  have:=wG hs
  conv=>lhs;rw[this]
  rw[<-this];conv=>lhs;arg 1;rw[this]
  grind
 rw[e,Nat.mod_mul,Nat.add_mul_div_left _ _ hp,Nat.div_eq_of_lt (Nat.mod_lt _ hp),Nat.zero_add];have e2:r*2^s/ae^i/2^s=r/ae^i:=by
  rw[Nat.div_div_eq_div_mul,Nat.mul_comm (ae^i),<-Nat.div_div_eq_div_mul,Nat.mul_div_cancel _ hp]
 rw[e2,Nat.mod_mul_right_mod]
def Py(Y g i:Nat):((gC Y g i:Nat):Int)+((g*(Y/ae^i%ae):Nat):Int)=((gS Y g i:Nat):Int):=by unfold gS;omega
def Gh(D Y i:Nat):((nT D Y i:Nat):Int)+((D/ae^i%ae+Y/ae^i%ae:Nat):Int)=((ny D Y i:Nat):Int):=by rw[yN];omega
def JZ{m n:Nat}(h:decide (ng m n<0)=false):n<=m:=by
 have:=of_decide_eq_false h;unfold ng at this;rcases Nat.lt_or_ge m n with c|c
 ·rw[if_pos c] at this;exact absurd (by decide) this
 ·exact c
def NJ{m n:Nat}(h:decide (ng m n<0)=true):m<n:=by
 have:=of_decide_eq_true h;unfold ng at this;rcases Nat.lt_or_ge m n with c|c
 ·exact c
 ·rw[if_neg (by omega)] at this
  split at this<;>exact absurd this (by decide)
def qd0{n:Nat}(h0:n≠0):0<(ag ae n).length:=by
 rcases Nat.eq_zero_or_pos (ag ae n).length with h|h
 ·exact absurd ((wo dH).1 (List.eq_nil_of_length_eq_zero h)) h0
 ·exact h
def qd1{n:Nat}(h:(ag ae n).length=1):n<4294967296:=by have:=eQ dH n;rw[h] at this;exact this
def qau{n:Nat}(h1:(ag ae n).length=1)(hn:n<4294967296):(ag ae n)[0]? =some n:=by
 rw[kV dH (by omega),Nat.pow_zero,Nat.div_one];exact congrArg some (Nat.mod_eq_of_lt hn)
def NK{z:Int}(h:(!decide (nb z.natAbs<=8))=true):(if-9223372036854775808<=z∧z<=9223372036854775807 then z else 0)=0∧decide (-9223372036854775808<=z∧z<=9223372036854775807)=false:=by
 have h1:¬nb z.natAbs<=8:=(by simpa using h);have h2:¬(-9223372036854775808<=z∧z<=9223372036854775807):=fun c=>h1 (nY (by omega))
 exact⟨if_neg h2,decide_eq_false h2⟩
def BC{z:Int}(h: -9223372036854775808<=z∧z<=9223372036854775807):(if-9223372036854775808<=z∧z<=9223372036854775807 then z else 0)=z∧decide (-9223372036854775808<=z∧z<=9223372036854775807)=true:=⟨if_pos h,decide_eq_true h⟩
def EH{z:Int}(h:¬(-9223372036854775808<=z∧z<=9223372036854775807)):(if-9223372036854775808<=z∧z<=9223372036854775807 then z else 0)=0∧decide (-9223372036854775808<=z∧z<=9223372036854775807)=false:=⟨if_neg h,decide_eq_false h⟩
def nb8{z:Int}(h:(!decide (nb z.natAbs<=8))=false):nb z.natAbs<=8:=by simpa using h
def qB(b:Bool)(s:ByteArray):Bool:=(s==⟨#[]⟩&&b)||s.data.toList.head? ==some 0
def qi6{s:ByteArray}(h:(s==⟨#[]⟩)=false):∃x l,s.data.toList=x::l:=by
 cases hl:s.data.toList with
 |nil=>
  exfalso
  rw[yH] at h;have:s=⟨#[]⟩:=ByteArray.ext (by simpa using hl);simp[this] at h
 |cons x l=>exact⟨x,l,rfl⟩
def qav{s:ByteArray}(h:(s==⟨#[]⟩)=true):s=⟨#[]⟩:=by rw[yH] at h;simpa using h
def Ro(a b:Nat):Nat.gcd b (a%b)=Nat.gcd a b:=by rw[Nat.gcd_comm a b,Nat.gcd_rec b a,Nat.gcd_comm]
def Rq{a b:Int}(h:(a !=b)=false):a=b:=by simpa using h
def Wh{x g:Nat}(h:x=g):(if false=true then-(x:Int) else(x:Int))=(g:Int):=by subst h;rfl
def qg3{b:Bool}{s:ByteArray}(he:s=⟨#[]⟩)(hb:b=true):qB b s=true:=by subst he;subst hb;unfold qB;rw[FY];rfl
def qg4{b:Bool}{s:ByteArray}(he:s=⟨#[]⟩)(hb:b=false):¬qB b s=true:=by subst he;subst hb;unfold qB;simp
def qg5{b:Bool}{s:ByteArray}{x:UInt8}{l:List UInt8}(he:s.data.toList=x::l)(h:(((x.toNat:Nat):Int)==0)=true):qB b s=true:=by
 unfold qB;rw[he];have:x=0:=UInt8.toNat_inj.1 (by have:=eq_of_beq h;show x.toNat=0;omega);subst this;simp
def qg6{b:Bool}{s:ByteArray}{x:UInt8}{l:List UInt8}(h0:(s==⟨#[]⟩)=false)(he:s.data.toList=x::l)(h:(((x.toNat:Nat):Int)==0)=false):¬qB b s=true:=by
 unfold qB;rw[he,h0];have:x≠0:=fun e=>by subst e;exact absurd h (by decide)
 simp[this]
end Go.Via
