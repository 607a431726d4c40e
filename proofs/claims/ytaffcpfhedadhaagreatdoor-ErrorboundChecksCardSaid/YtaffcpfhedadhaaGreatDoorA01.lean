/-
  Part 1 (chapter 32): lemmas, walks. Each theorem states its own conditions.
-/
import Derived.Shelf.Strings.Builder1
import Derived.Shelf.Strings.Builder2
import Derived.Shelf.Small.Utf8
import Derived.Shelf.Small.Bits
import Derived.Shelf.Small.Strs
import Derived.Shelf.Small.Wraps
import Derived.Shelf.Strings.BuilderF
import Derived.Shelf.Strconv.Itoa0
import Derived.Shelf.Strings.Search1
import Derived.Shelf.Strings.Prefix
import Derived.Shelf.Strings.Runes
import Derived.Shelf.Strings.AsciiSet
import Derived.Shelf.Bits.Mul64
import Derived.Shelf.Strings.Repeat
import Derived.Shelf.Unicode.DecodeSlow
import Derived.Test.YtaffcpfhedadhaaGreatDoorProg
import Derived.Shelf.SlSortCmp.WholeK
import Derived.Shelf.SlSortCmp.NoneTotal
set_option linter.all false
set_option maxRecDepth 20000
set_option maxHeartbeats 20000000
section
variable{P Q:Prop}{T:Type}{R:T->Prop}
def ak(h:P:=by kernel_rfl):=h
def au(h:P:=by decide):=h
def qmD(h:P:=by rw[hp];decide):=h
def quD(h:P:=by rcases h1 with h|h;rw[hp] at h;cases h;exact h):=h
def bz(h:P:=by simp):=h
def ae(h:P:=by omega):=h
end
namespace Go.Proofs
open Go.Shelf
def Tryz.sortEv_ren:Go.Shelf.Ren:=⟨fun|6=>192|14=>222|15=>223|20=>239|21=>240|22=>241|23=>242|24=>243|25=>244|26=>245|27=>246|28=>247|29=>226|46=>266|47=>267|48=>268|49=>269|50=>270|57=>284|n=>n,fun|0=>0|3=>3|4=>4|5=>5|9=>9|22=>249|24=>253|25=>255|39=>236|53=>272|55=>189|76=>343|66=>328|45=>297|46=>298|50=>139|77=>344|70=>332|n=>n,fun n=>n⟩
def Tryz.sortEv:SlLaysF0.n6 Tryz.prog Tryz.sortEv_ren where
 mixed:=ak
 f6:=⟨"slices.SortFunc[[]viator/period.event,viator/period.event]",au,Tryz.func192.trans (congrArg some ak)⟩
 f14:=⟨"slices.pdqsortCmpFunc[viator/period.event]",au,Tryz.func222.trans (congrArg some ak)⟩
 f15:=Tryz.func223.trans (congrArg some ak)
 f20:=⟨"slices.insertionSortCmpFunc[viator/period.event]",au,Tryz.func239.trans (congrArg some ak)⟩
 f21:=⟨"slices.heapSortCmpFunc[viator/period.event]",au,Tryz.func240.trans (congrArg some ak)⟩
 f22:=⟨"slices.breakPatternsCmpFunc[viator/period.event]",au,Tryz.func241.trans (congrArg some ak)⟩
 f23:=⟨"slices.choosePivotCmpFunc[viator/period.event]",au,Tryz.func242.trans (congrArg some ak)⟩
 f24:=⟨"slices.reverseRangeCmpFunc[viator/period.event]",au,Tryz.func243.trans (congrArg some ak)⟩
 f25:=⟨"slices.partialInsertionSortCmpFunc[viator/period.event]",au,Tryz.func244.trans (congrArg some ak)⟩
 f26:=⟨"slices.partitionEqualCmpFunc[viator/period.event]",au,Tryz.func245.trans (congrArg some ak)⟩
 f27:=⟨"slices.partitionCmpFunc[viator/period.event]",au,Tryz.func246.trans (congrArg some ak)⟩
 f28:=Tryz.func247.trans (congrArg some ak)
 f29:=Tryz.func226.trans (congrArg some ak)
 f46:=⟨"slices.siftDownCmpFunc[viator/period.event]",au,Tryz.func266.trans (congrArg some ak)⟩
 f47:=Tryz.func267.trans (congrArg some ak)
 f48:=Tryz.func268.trans (congrArg some ak)
 f49:=⟨"slices.medianAdjacentCmpFunc[viator/period.event]",au,Tryz.func269.trans (congrArg some ak)⟩
 f50:=⟨"slices.medianCmpFunc[viator/period.event]",au,Tryz.func270.trans (congrArg some ak)⟩
 f57:=⟨"slices.order2CmpFunc[viator/period.event]",au,Tryz.func284.trans (congrArg some ak)⟩
 t0:=Tryz.underlying0
 a0:=Tryz.isAgg0
 z0:=Tryz.sizeOf0
 v0:=Tryz.zeroValue0
 t3:=Tryz.underlying3
 a3:=Tryz.isAgg3
 z3:=Tryz.sizeOf3
 v3:=Tryz.zeroValue3
 t4:=Tryz.underlying4
 a4:=Tryz.isAgg4
 z4:=Tryz.sizeOf4
 v4:=Tryz.zeroValue4
 t5:=Tryz.underlying5
 a5:=Tryz.isAgg5
 z5:=Tryz.sizeOf5
 v5:=Tryz.zeroValue5
 t9:=Tryz.underlying9
 a9:=Tryz.isAgg9
 z9:=Tryz.sizeOf9
 v9:=Tryz.zeroValue9
 t22:=Tryz.underlying249
 a22:=Tryz.isAgg249
 z22:=Tryz.sizeOf249
 v22:=Tryz.zeroValue249
 t25:=Tryz.underlying255
 a25:=Tryz.isAgg255
 z25:=Tryz.sizeOf255
 v25:=Tryz.zeroValue255
 t39:=Tryz.underlying236
 a39:=Tryz.isAgg236
 z39:=Tryz.sizeOf236
 v39:=Tryz.zeroValue236
 t45:=Tryz.underlying297
 a45:=Tryz.isAgg297
 z45:=Tryz.sizeOf297
 v45:=Tryz.zeroValue297
 t46:=Tryz.underlying298
 a46:=Tryz.isAgg298
 z46:=Tryz.sizeOf298
 v46:=Tryz.zeroValue298
 t50:=Tryz.underlying139
 a50:=Tryz.isAgg139
 z50:=Tryz.sizeOf139
 v50:=Tryz.zeroValue139
 t53:=Tryz.underlying272
 a53:=Tryz.isAgg272
 z53:=Tryz.sizeOf272
 v53:=Tryz.zeroValue272
 t55:=Tryz.underlying189
 a55:=Tryz.isAgg189
 z55:=Tryz.sizeOf189
 v55:=Tryz.zeroValue189
 t66:=Tryz.underlying328
 a66:=Tryz.isAgg328
 z66:=Tryz.sizeOf328
 v66:=Tryz.zeroValue328
 t70:=Tryz.underlying332
 a70:=Tryz.isAgg332
 z70:=Tryz.sizeOf332
 v70:=Tryz.zeroValue332
 t76:=Tryz.underlying343
 a76:=Tryz.isAgg343
 z76:=Tryz.sizeOf343
 v76:=Tryz.zeroValue343
 t77:=Tryz.underlying344
 a77:=Tryz.isAgg344
 z77:=Tryz.sizeOf344
 v77:=Tryz.zeroValue344
def Tryz.insPU_ren:Go.Shelf.Ren:=⟨fun|15=>223|20=>264|28=>247|29=>226|47=>267|48=>268|n=>n,fun|0=>0|3=>3|4=>4|5=>5|9=>9|22=>148|24=>201|25=>280|n=>n,fun n=>n⟩
def Tryz.insPU:SlLaysF0.n20 Tryz.prog Tryz.insPU_ren where
 mixed:=ak
 f20:=⟨"slices.insertionSortCmpFunc[viator/pieces.Unit[viator/api.Line]]",au,Tryz.func264.trans (congrArg some ak)⟩
 t0:=Tryz.underlying0
 a0:=Tryz.isAgg0
 z0:=Tryz.sizeOf0
 v0:=Tryz.zeroValue0
 t3:=Tryz.underlying3
 a3:=Tryz.isAgg3
 z3:=Tryz.sizeOf3
 v3:=Tryz.zeroValue3
 t4:=Tryz.underlying4
 a4:=Tryz.isAgg4
 z4:=Tryz.sizeOf4
 v4:=Tryz.zeroValue4
 t22:=Tryz.underlying148
 a22:=Tryz.isAgg148
 z22:=Tryz.sizeOf148
 v22:=Tryz.zeroValue148
 t25:=Tryz.underlying280
 a25:=Tryz.isAgg280
 z25:=Tryz.sizeOf280
 v25:=Tryz.zeroValue280
end Go.Proofs
namespace Go.Via
section
variable{α:Type}{κ:α->Int}
def gm(g:α->Bool):Option α->List α->List (α×α)
 |_,[]=>[]
 |none,c::cs=>if g c=true then gm g (some c) cs else gm g none cs
 |some f,c::cs=>if g c=true then gm g (some f) cs else(f,c)::gm g none cs
theorem mg{g h:α->Bool}:∀{C:List α} {st:Option α},(∀c∈C,g c=h c)->gm g st C=gm h st C
 |[],none,_=>rfl
 |[],some _,_=>rfl
 |c::cs,none,H=>by
  unfold gm;rw[H c (List.mem_cons_self ..),mg (fun x hx=>H x (List.mem_cons_of_mem _ hx)),mg (C:=cs) (st:=none) (fun x hx=>H x (List.mem_cons_of_mem _ hx))]
 |c::cs,some f,H=>by
  unfold gm;rw[H c (List.mem_cons_self ..),mg (fun x hx=>H x (List.mem_cons_of_mem _ hx)),mg (C:=cs) (st:=none) (fun x hx=>H x (List.mem_cons_of_mem _ hx))]
def Chk(g:α->Bool)(p:α->Bool):Bool->List α->Prop
 |_,[]=>True
 |s,c::cs=>(p c=true∨g c=s)∧Chk g p (g c) cs
theorem pq{g p:α->Bool}:∀{C:List α} {st:Option α},Chk g p st.isSome C->gm g st C=gm g st (C.filter p)
 |[],none,_=>rfl
 |[],some _,_=>rfl
 |c::cs,none,H=>by
  obtain⟨h1,h2⟩:=H;cases hp:p c
  ·rw[List.filter_cons_of_neg qmD];have h3:g c=false:=quD
   rw[h3] at h2;unfold gm;rw[h3,if_neg au,pq (st:=none) h2];cases cs.filter p<;>rfl
  ·rw[List.filter_cons_of_pos hp];unfold gm;cases hg:g c
   ·rw[hg] at h2;rw[if_neg au,if_neg au,pq (st:=none) h2]
   ·rw[hg] at h2;rw[if_pos rfl,if_pos rfl,pq (st:=some c) h2]
 |c::cs,some f,H=>by
  obtain⟨h1,h2⟩:=H;cases hp:p c
  ·rw[List.filter_cons_of_neg qmD];have h3:g c=true:=quD
   rw[h3] at h2;unfold gm;rw[h3,if_pos rfl,pq (st:=some f) h2];cases cs.filter p<;>rfl
  ·rw[List.filter_cons_of_pos hp];unfold gm;cases hg:g c
   ·rw[hg] at h2;rw[if_neg au,if_neg au,pq (st:=none) h2]
   ·rw[hg] at h2;rw[if_pos rfl,if_pos rfl,pq (st:=some f) h2]
def zq:∀{C D:List α},C.Pairwise (fun a b=>κ a<κ b)->D.Pairwise (fun a b=>κ a<κ b)->(∀x,x∈C↔x∈D)->C=D
 |[],[],_,_,_=>rfl
 |[],d::D,_,_,H=>absurd ((H d).2 (List.mem_cons_self ..)) bz
 |c::C,[],_,_,H=>absurd ((H c).1 (List.mem_cons_self ..)) bz
 |c::C,d::D,h1,h2,H=>by
  obtain⟨a1,a2⟩:=List.pairwise_cons.1 h1;obtain⟨b1,b2⟩:=List.pairwise_cons.1 h2;have e:c=d:=by
   have m1:=(H c).1 (List.mem_cons_self ..);have m2:=(H d).2 (List.mem_cons_self ..);rcases List.mem_cons.1 m1 with h|h
   ·exact h
   ·rcases List.mem_cons.1 m2 with h'|h'
    ·exact h'.symm
    ·have:=a1 d h';have:=b1 c h;omega
  subst e;refine congrArg (c:: ·) (zq a2 b2 fun x=>?_)
  constructor
  ·intro hx;rcases List.mem_cons.1 ((H x).1 (List.mem_cons_of_mem _ hx)) with h|h
   ·subst h;have:=a1 x hx;omega
   ·exact h
  ·intro hx;rcases List.mem_cons.1 ((H x).2 (List.mem_cons_of_mem _ hx)) with h|h
   ·subst h;have:=b1 x hx;omega
   ·exact h
def xu(κ:α->Int):List α->List α
 |[]=>[]
 |[x]=>[x]
 |x::y::l=>if κ x=κ y then xu κ (y::l) else x::xu κ (y::l)
def yN:∀{l:List α} {x:α},x∈xu κ l->x∈l
 |[],_,h=>h
 |[_],_,h=>h
 |x::y::l,z,h=>by
  unfold xu at h
  split at h
  ·exact List.mem_cons_of_mem _ (yN h)
  ·rcases List.mem_cons.1 h with h|h
   ·subst h;exact List.mem_cons_self ..
   ·exact List.mem_cons_of_mem _ (yN h)
def IJ:∀{l:List α},l.Pairwise (fun a b=>κ a<=κ b)->(xu κ l).Pairwise (fun a b=>κ a<κ b)
 |[],_=>List.Pairwise.nil
 |[x],_=>List.pairwise_singleton ..
 |x::y::l,h=>by
  obtain⟨h1,h2⟩:=List.pairwise_cons.1 h;obtain⟨h3,_⟩:=List.pairwise_cons.1 h2;unfold xu
  split
  ·exact IJ h2
  ·rename_i hne
   refine List.pairwise_cons.2 ⟨fun z hz=>?_,IJ h2⟩;have hz':=yN hz;have:=h1 y (List.mem_cons_self ..);rcases List.mem_cons.1 hz' with e|e
   ·subst e;omega
   ·have:=h3 z e;omega
def DC:∀{l:List α} {x:α},(∀a∈l,∀b∈l,κ a=κ b->a=b)->x∈l->x∈xu κ l
 |[],_,_,h=>h
 |[_],_,_,h=>h
 |x::y::l,z,H,h=>by
  have H':∀a∈y::l,∀b∈y::l,κ a=κ b->a=b:=fun a ha b hb=>H a (List.mem_cons_of_mem _ ha) b (List.mem_cons_of_mem _ hb)
  unfold xu
  split
  ·rename_i he
   rcases List.mem_cons.1 h with e|e
   ·subst e;have:=H z (List.mem_cons_self ..) y (List.mem_cons_of_mem _ (List.mem_cons_self ..)) he;subst this;exact DC H' (List.mem_cons_self ..)
   ·exact DC H' e
  ·rcases List.mem_cons.1 h with e|e
   ·subst e;exact List.mem_cons_self ..
   ·exact List.mem_cons_of_mem _ (DC H' e)
def qO(κ:α->Int)(c:Int):List (α×Int×Int)->Int
 |[]=>0
 |e::l=>(if κ e.1<=c then e.2.1 else 0)+qO κ c l
def qP(κ:α->Int)(c:Int):List (α×Int×Int)->Int
 |[]=>0
 |e::l=>(if κ e.1<=c then e.2.2 else 0)+qP κ c l
def PT(κ:α->Int)(keep:Bool->Bool->Bool):List (α×Int×Int)->Int->Int->Option α->List (α×α)
 |[],_,_,_=>[]
 |[x],m,n,st=>
  match st,keep (decide (0<m+x.2.1)) (decide (0<n+x.2.2)) with
  |some f,false=>[(f,x.1)]
  |_,_=>[]
 |x::y::l,m,n,st=>
  if κ x.1=κ y.1 then PT κ keep (y::l) (m+x.2.1) (n+x.2.2) st else
  match st,keep (decide (0<m+x.2.1)) (decide (0<n+x.2.2)) with
  |none,true=>PT κ keep (y::l) (m+x.2.1) (n+x.2.2) (some x.1)
  |some f,false=>(f,x.1)::PT κ keep (y::l) (m+x.2.1) (n+x.2.2) none
  |st,_=>PT κ keep (y::l) (m+x.2.1) (n+x.2.2) st
def Qw{c:Int}:∀{l:List (α×Int×Int)},(∀e∈l,c<κ e.1)->qO κ c l=0∧qP κ c l=0
 |[],_=>⟨rfl,rfl⟩
 |e::l,h=>by
  have h1:=h e (List.mem_cons_self ..);obtain⟨a,b⟩:=Qw (l:=l) fun x hx=>h x (List.mem_cons_of_mem _ hx)
  unfold qO qP;rw[if_neg ae,if_neg ae,a,b];exact⟨rfl,rfl⟩
theorem Vh{keep:Bool->Bool->Bool}:∀{l:List (α×Int×Int)} {m n:Int} {st:Option α},l.Pairwise (fun a b=>κ a.1<=κ b.1)->
 PT κ keep l m n st=gm (fun c=>keep (decide (0<m+qO κ (κ c) l)) (decide (0<n+qP κ (κ c) l))) st (xu κ (l.map (·.1)))
 |[],m,n,none,_=>rfl
 |[],m,n,some _,_=>rfl
 |[x],m,n,st,_=>by
  unfold PT;show _=gm _ st [x.1];have e1:qO κ (κ x.1) [x]=x.2.1:=by simp[qO]
  have e2:qP κ (κ x.1) [x]=x.2.2:=(by simp[qP]);cases st
  ·unfold gm;rw[e1,e2];cases keep (decide (0<m+x.2.1)) (decide (0<n+x.2.2))<;>rfl
  ·unfold gm;rw[e1,e2];cases keep (decide (0<m+x.2.1)) (decide (0<n+x.2.2))<;>rfl
 |x::y::l,m,n,st,h=>by
  obtain⟨h1,h2⟩:=List.pairwise_cons.1 h;have hxy:=h1 y (List.mem_cons_self ..);have G:∀c,κ x.1<=κ c->keep (decide (0<m+qO κ (κ c) (x::y::l))) (decide (0<n+qP κ (κ c) (x::y::l)))=keep (decide (0<m+x.2.1+qO κ (κ c) (y::l))) (decide (0<n+x.2.2+qP κ (κ c) (y::l))):=fun c hc=>by
   rw[qO,qP,if_pos hc,if_pos hc,<-Int.add_assoc,<-Int.add_assoc]
  have hl:∀c∈xu κ (y.1::l.map (·.1)),κ x.1<=κ c:=fun c hc=>by
   obtain⟨e,he,rfl⟩:=List.mem_map.1 (show c∈(y::l).map (·.1) from yN hc);exact h1 e he
  have ih:=fun m n st=>Vh (keep:=keep) (m:=m) (n:=n) (st:=st) h2
  unfold PT;show _=gm _ st (xu κ (x.1::y.1::l.map (·.1)));unfold xu
  by_cases he:κ x.1=κ y.1
  ·rw[if_pos he,if_pos he,ih];exact mg fun c hc=>(G c (hl c hc)).symm
  ·rw[if_neg he,if_neg he];have hz:=Qw (κ:=κ) (c:=κ x.1) (l:=y::l) (fun e hel=>by
 rcases List.mem_cons.1 hel with e'|e'
 ·subst e';omega
 ·have:=(List.pairwise_cons.1 h2).1 e e';omega)
   have ex:keep (decide (0<m+qO κ (κ x.1) (x::y::l))) (decide (0<n+qP κ (κ x.1) (x::y::l)))=keep (decide (0<m+x.2.1)) (decide (0<n+x.2.2)):=by
    rw[G x.1 (Int.le_refl _),hz.1,hz.2,Int.add_zero,Int.add_zero]
   have ec:=fun st=>mg (st:=st) (C:=xu κ (y.1::l.map (fun e=>e.1))) fun c hc=>G c (hl c hc)
   have ih':=fun st=>(ih (m+x.2.1) (n+x.2.2) st).trans (ec st).symm
   cases st
   ·unfold gm;rw[ex];cases keep (decide (0<m+x.2.1)) (decide (0<n+x.2.2))
    ·exact ih' none
    ·exact ih' (some x.1)
   ·unfold gm;rw[ex];cases keep (decide (0<m+x.2.1)) (decide (0<n+x.2.2))
    ·exact congrArg _ (ih' none)
    ·exact ih' (some _)
end
end Go.Via
