/-
  Part 34 (chapter 32): lemmas, walks. Each theorem states its own conditions.
-/
import Derived.Test.YtaffcpfhedadhaaGreatDoorA12
import Derived.Test.YtaffcpfhedadhaaGreatDoorA13
import Derived.Test.YtaffcpfhedadhaaGreatDoorA26
import Derived.Test.YtaffcpfhedadhaaGreatDoorA27
import Derived.Test.YtaffcpfhedadhaaGreatDoorA30
import Derived.Test.YtaffcpfhedadhaaGreatDoorA31
import Derived.Test.YtaffcpfhedadhaaGreatDoorA33
import Derived.Test.YtaffcpfhedadhaaGreatDoorA18
set_option linter.all false
set_option maxRecDepth 20000
set_option maxHeartbeats 20000000
namespace Go.Proofs.YtaffcpfhedadhaaGreatDoor
open Go Go.RowKit Go.Via
def F9(a:List Iv)(ab:Option Nat)(aN ac:Nat)(hac:a.length<=ac)(han:a.length<=2000000)(b:List Iv)(bb:Option Nat)(bN bc:Nat)(hbc:b.length<=bc:=by omega)(hbn:b.length<=2000000:=by omega):bW Tryz.prog 103 [⟨ab,61,ah bG a,aN,false⟩,⟨bb,61,ah bG b,bN,false⟩] [az ab 0 a.length ac,az bb 0 b.length bc] Unit (fun _=> .bool (decide (a=b))) (fun _=>[]):=by
 refine X5 26 Tryz.func103 fun w hL0=>?_;refine AL ?_;refine Cd ?_ ?_<;>intro haQ
 ·have hle:a.length≠b.length:=by have e:=haQ;simp at e;omega
  refine A7 ?_;refine aF rfl (aj rfl) (fun w hL=>⟨(),?_,hL.pk []⟩);exact eB (decide_eq_false (fun e=>hle (by rw[e]))).symm
 ·have hle:a.length=b.length:=by have e:=haQ;simp at e;omega
  refine pq ?_;refine El (ι:={i:Nat // i<=a.length∧a.take i=b.take i}) (fun⟨i,hi,hI⟩=>([(0,az ab 0 a.length ac),(1,az bb 0 b.length bc),(11,az ab 0 a.length ac),(12,aZ (a.length)),(13,aZ i)],[⟨ab,61,ah bG a,aN,false⟩,⟨bb,61,ah bG b,bN,false⟩],a.length-i)) ⟨0,Nat.zero_le _,rfl⟩ ?_;rintro⟨i,hi,hI⟩;(try dsimp only);refine A6 ?_;refine Cd ?_ ?_<;>intro hbQ
  ·have hlt:i<a.length:=(by have:=of_decide_eq_true hbQ;omega);obtain⟨x,hx⟩:∃x,a[i]? =some x:=⟨a[i],List.getElem?_eq_getElem hlt⟩;obtain⟨y,hy⟩:∃y,b[i]? =some y:=⟨_,List.getElem?_eq_getElem (by omega)⟩;refine pq ?_;refine Di [] ?_;refine A2 ?_;refine ai 0 ((i)*20) FH iR rfl rfl rfl rfl rfl (by omega) (by omega) (bu.ne (by decide) (by omega)) (by show 0+Int.toNat _*20=_;omega) ?_;refine aI (v:=kG x) 0 ((i)*20) _ rfl rfl rfl rfl iR (bu.sub hx 0 20 (by decide)) rfl (by decide) rfl ?_;refine A2 ?_;refine ai 1 ((i)*20) FH iR rfl rfl rfl rfl rfl (by omega) (by omega) (bu.ne (by decide) (by omega)) (by show 0+Int.toNat _*20=_;omega) ?_;refine aI (v:=kG y) 1 ((i)*20) _ rfl rfl rfl rfl iR (bu.sub hy 0 20 (by decide)) rfl (by decide) rfl ?_;refine DT rfl rfl rfl rfl qjv (qjN _ _) ?_;refine A2 ?_;refine Cd ?_ ?_<;>intro hcQ
   ·have hxy:x≠y:=by have e:=hcQ;simpa using e
    refine pq ?_;refine aF rfl (aj rfl) (fun w hL=>⟨(),?_,hL.pk []⟩);exact eB (decide_eq_false (fun e=>hxy (by rw[e,hy] at hx;cases hx;rfl))).symm
   ·have hxy:x=y:=by have e:=hcQ;simpa using e
    refine A4 ?_;refine dh ?_;exact Nl ⟨i+1,hlt,by rw[<-dZ hx,<-dZ hy,hI,hxy]⟩ (hL:=eH.auto)
  ·have hge:i=a.length:=(by have:=of_decide_eq_false hbQ;omega);subst hge;refine pq ?_;refine aF rfl (aj rfl) (fun w hL=>⟨(),?_,hL.pk []⟩);exact eB (decide_eq_true (SG hI hle)).symm
def J6(a:List Iv)(ab:Option Nat)(aN ac:Nat)(hac:a.length<=ac)(han:a.length<=2000000)(b:List Iv)(bb:Option Nat)(bN bc:Nat)(hbc:b.length<=bc:=by omega)(hbn:b.length<=2000000:=by omega):bW Tryz.prog 49 [⟨ab,61,ah bG a,aN,false⟩,⟨bb,61,ah bG b,bN,false⟩] [az ab 0 a.length ac,az bb 0 b.length bc] Unit (fun _=> .bool (decide (a=b))) (fun _=>[]):=by
 refine X5 8 Tryz.func49 fun w hL0=>?_;refine A9 ?_;refine(Sd [0,1]) (F9 a ab aN ac hac han b bb bN bc hbc hbn) ?_;refine A4 ?_;refine aF rfl (aj rfl) (fun w hL=>⟨(),?_,hL.pk []⟩);exact rfl
variable[Mo]
def Ho(x y:Bool):aH Tryz.prog 153 #[.bool x,.bool y] (.bool (x||y)):=by
 refine nG 9 Tryz.func153 fun w=>?_;refine A9 ?_;refine Rs 6 ?_ ?_<;>intro haQ
 ·refine A6 ?_;refine E0 ?_;exact eB (by cases x<;>cases y<;>simp_all)
 ·refine A6 ?_;refine E0 ?_;exact eB (by cases x<;>cases y<;>simp_all)
def Hq(x y:Bool):aH Tryz.prog 191 #[.bool x,.bool y] (.bool (x&& !y)):=by
 refine nG 10 Tryz.func191 fun w=>?_;refine A9 ?_;refine Rs 6 ?_ ?_<;>intro haQ
 ·refine A7 ?_;refine E0 ?_;exact eB (by cases x<;>cases y<;>simp_all)
 ·refine A7 ?_;refine E0 ?_;exact eB (by cases x<;>cases y<;>simp_all)
def Hr(a b:(Rl×Bool)×Int×Int)(ha:gz a.1.1<=50000:=by omega)(hb:gz b.1.1<=50000:=by omega):aH Tryz.prog 193 #[EvV a,EvV b] (.int .i64 (wK a.1 b.1)):=by
 refine nG 10 Tryz.func193 fun w=>?_;refine A2 ?_;refine Bp 12 (fun g0=>?_);refine Bp 12 (fun g1=>?_);refine A6 ?_;refine QH 0 0 ?_;refine A1 ?_;refine QH 1 0 ?_;refine Pc (qo a.1 b.1 ha hb) ?_;refine A4 ?_;refine E0 ?_;exact rfl
end Go.Proofs.YtaffcpfhedadhaaGreatDoor
namespace Go.Via
open Go Go.Sort Go.Proofs
abbrev J7:=(Rl×Bool)×Int×Int
theorem qbY{l:List Iv}{i:Nat}{x:Iv}(hx:l[i]? =some x):BO (l.take i)++[(x.b,1,0),(x.e,-1,0)]=BO (l.take (i+1)):=by
 rw[<-dZ hx];unfold BO;rw[List.flatMap_append];rfl
theorem qbZ{l:List Iv}{i:Nat}{x:Iv}(hx:l[i]? =some x):G7 (l.take i)++[(x.b,0,1),(x.e,0,-1)]=G7 (l.take (i+1)):=by
 rw[<-dZ hx];unfold G7;rw[List.flatMap_append];rfl
def evK(a b:List Iv):Nat->List J7
 |0=>[]
 |1=>BO a
 |_=>BO a++G7 b
theorem PL(l:List Iv):(BO l).length=2*l.length:=by
 induction l with
 |nil=>rfl
 |cons x l ih=>show(_++BO l).length=_;rw[List.length_append,ih];simp;omega
theorem PM(l:List Iv):(G7 l).length=2*l.length:=by
 induction l with
 |nil=>rfl
 |cons x l ih=>show(_++G7 l).length=_;rw[List.length_append,ih];simp;omega
def qb3{a b:List Iv}{e:J7}(h:e∈BO a++G7 b):(∃i∈a++b,e.1=i.b∨e.1=i.e)∧(-1<=e.2.1∧e.2.1<=1)∧ -1<=e.2.2∧e.2.2<=1:=by
 rcases List.mem_append.1 h with h|h
 ·obtain⟨i,hi,h⟩:=List.mem_flatMap.1 h;simp only[List.mem_cons,List.not_mem_nil,or_false] at h;rcases h with rfl|rfl
  ·exact⟨⟨i,List.mem_append_left _ hi,.inl rfl⟩,by dsimp only;decide⟩
  ·exact⟨⟨i,List.mem_append_left _ hi,.inr rfl⟩,by dsimp only;decide⟩
 ·obtain⟨i,hi,h⟩:=List.mem_flatMap.1 h;simp only[List.mem_cons,List.not_mem_nil,or_false] at h;rcases h with rfl|rfl
  ·exact⟨⟨i,List.mem_append_right _ hi,.inl rfl⟩,by dsimp only;decide⟩
  ·exact⟨⟨i,List.mem_append_right _ hi,.inr rfl⟩,by dsimp only;decide⟩
def qkf{S:Rl->Prop}{a b:List Iv}(ha:jO S a)(hb:jO S b){e:J7}(h:e∈BO a++G7 b):S e.1.1:=by
 obtain⟨⟨i,hi,h1⟩,_⟩:=qb3 h;have h2:S i.f∧S i.t:=by
  rcases List.mem_append.1 hi with h|h;exact ha i h;exact hb i h
 rcases h1 with h1|h1<;>rw[h1];exact h2.1;exact h2.2
section
variable{α:Type}{κ:α->Int}{keep:Bool->Bool->Bool}
def stO(inn:Bool)(f:α):Option α:=if inn=true then some f else none
theorem uO{β:Type}{l:List β}{i:Nat}{x:β}(h:l[i]? =some x):l.drop i=x::l.drop (i+1):=by
 obtain⟨hl,rfl⟩:=List.getElem?_eq_some_iff.1 h;exact List.drop_eq_getElem_cons hl
theorem qb4{l:List (α×Int×Int)}{i:Nat}{x y:α×Int×Int}{m n:Int}{st:Option α}(hx:l[i]? =some x)(hy:l[i+1]? =some y)(h:κ x.1=κ y.1):KN κ keep (l.drop i) m n st=KN κ keep (l.drop (i+1)) (m+x.2.1) (n+x.2.2) st:=by
 rw[uO hx,uO hy];conv=>lhs;unfold KN;rw[if_pos h]
theorem qb5{l:List (α×Int×Int)}{i:Nat}{x:α×Int×Int}{m n:Int}{st:Option α}(hx:l[i]? =some x)(h:∀y,l[i+1]? =some y->κ x.1≠κ y.1):
 KN κ keep (l.drop i) m n st=match st,keep (decide (0<m+x.2.1)) (decide (0<n+x.2.2)) with
  |none,true=>KN κ keep (l.drop (i+1)) (m+x.2.1) (n+x.2.2) (some x.1)
  |some f,false=>(f,x.1)::KN κ keep (l.drop (i+1)) (m+x.2.1) (n+x.2.2) none
  |st,_=>KN κ keep (l.drop (i+1)) (m+x.2.1) (n+x.2.2) st:=by
 rw[uO hx];cases hy:l[i+1]? with
 |none=>
  have e:l.drop (i+1)=[]:=List.drop_eq_nil_of_le (List.getElem?_eq_none_iff.1 hy);rw[e];cases st<;>cases hk:keep (decide (0<m+x.2.1)) (decide (0<n+x.2.2))<;>simp[KN,hk]
 |some y=>
  rw[uO hy]
  conv=>lhs;unfold KN
  rw[if_neg (h y hy)];cases st<;>cases hk:keep (decide (0<m+x.2.1)) (decide (0<n+x.2.2))<;>simp
theorem qip{l:List (α×Int×Int)}{i:Nat}{x:α×Int×Int}{m n:Int}{inn now:Bool}{fb:α}(hx:l[i]? =some x)(h:∀y,l[i+1]? =some y->κ x.1≠κ y.1)(hn:keep (decide (0<m+x.2.1)) (decide (0<n+x.2.2))=now):
 KN κ keep (l.drop i) m n (stO inn fb)=(if inn=true∧now=false then[(fb,x.1)] else[])++KN κ keep (l.drop (i+1)) (m+x.2.1) (n+x.2.2) (stO now (if now=true∧inn=false then x.1 else fb)):=by
 rw[qb5 hx h,hn];cases inn<;>cases now<;>rfl
end
def ivP(p:pO×pO):Iv:=G6 p.1 p.2
def Y6(κ:pO->Int)(keep:Bool->Bool->Bool)(l:List J7)(i:Nat)(m n:Int)(inn:Bool)(fb:pO):List Iv:=(KN κ keep (l.drop i) m n (stO inn fb)).map ivP
theorem qfn{κ:pO->Int}{keep:Bool->Bool->Bool}{l:List J7}{m n:Int}{inn:Bool}{fb:pO}:Y6 κ keep l l.length m n inn fb=[]:=by
 unfold Y6;rw[List.drop_length];rfl
def qb6{S:Rl->Prop}{ρ:Rl->Int}(T:fZ S ρ){op:Bool->Bool->Bool}(h0:op false false=false){a b:List Iv}(ha:jO S a)(hb:jO S b)(oa:FU ρ a)(ob:FU ρ b)
 {l:List J7}(hp:l.Perm (BO a++G7 b))(hl:l.Pairwise (fun x y=>aT ρ x.1<=aT ρ y.1))(fb:pO):Y6 (aT ρ) op l 0 0 0 false fb=kD op a b:=by
 obtain⟨s1,s2⟩:=um T (tC (mD ha hb));unfold Y6 kD;rw[List.drop_zero];show List.map ivP (KN (aT ρ) op l 0 0 none)=_;rw[Uz T h0 ha hb oa ob s1 (fun x=>by rw[s2,rC]) hp hl]
 rfl
theorem qb7{S:Rl->Prop}{ρ:Rl->Int}(T:fZ S ρ){a b:pO}(ha:S a.1)(hb:S b.1):wK a b=0↔aT ρ a=aT ρ b:=by
 rw[Ri T ha hb];unfold zA;split<;>(try split)<;>omega
theorem WU{S:Rl->Prop}{ρ:Rl->Int}(T:fZ S ρ){a b:pO}(ha:S a.1)(hb:S b.1):wK a b<0↔aT ρ a<aT ρ b:=by
 rw[Ri T ha hb];unfold zA;split<;>(try split)<;>omega
theorem qb8{S:Rl->Prop}{ρ:Rl->Int}(T:fZ S ρ){keep:Bool->Bool->Bool}{l:List J7}{i:Nat}{x y:J7}{m n:Int}{inn:Bool}{fb:pO}(hx:l[i]? =some x)(hy:l[i+1]? =some y)(sx:S x.1.1)(sy:S y.1.1)(h:wK x.1 y.1=0):Y6 (aT ρ) keep l i m n inn fb=Y6 (aT ρ) keep l (i+1) (m+x.2.1) (n+x.2.2) inn fb:=by
 unfold Y6;rw[qb4 hx hy ((qb7 T sx sy).1 h)]
def Far(ρ:Rl->Int)(l:List J7)(i:Nat)(x:J7):Prop:=∀y,l[i+1]? =some y->aT ρ x.1≠aT ρ y.1
def qfo{ρ:Rl->Int}{l:List J7}{i:Nat}{x:J7}(h:¬i+1<l.length):Far ρ l i x:=fun y hy=>by
 rw[List.getElem?_eq_none (by omega)] at hy;cases hy
def qiq{S:Rl->Prop}{ρ:Rl->Int}(T:fZ S ρ){l:List J7}{i:Nat}{x y:J7}(hy:l[i+1]? =some y)(sx:S x.1.1)(sy:S y.1.1)(h:wK x.1 y.1≠0):Far ρ l i x:=fun z hz e=>by
 rw[hy] at hz;cases hz;exact h ((qb7 T sx sy).2 e)
theorem Ag{ρ:Rl->Int}{keep:Bool->Bool->Bool}{l:List J7}{i:Nat}{x:J7}{m n:Int}{inn now:Bool}{fb:pO}(hx:l[i]? =some x)(h:Far ρ l i x)(hn:keep (decide (0<m+x.2.1)) (decide (0<n+x.2.2))=now):
 Y6 (aT ρ) keep l i m n inn fb=(if inn=true∧now=false then[G6 fb x.1] else[])++Y6 (aT ρ) keep l (i+1) (m+x.2.1) (n+x.2.2) now (if now=true∧inn=false then x.1 else fb):=by
 unfold Y6;rw[qip hx h hn,List.map_append]
 congr 1
 split<;>rfl
def ql3:List Value:=[aO,aP,aO,aP,aO,aP,aO,aP,.bool false,.bool false]
theorem qir:wL (rl 0,false)=ql3:=by
 have h:=qbN;show jX (rl 0)++[.bool false]=_;rw[h];rfl
abbrev EvS(S:Rl->Prop):={e:J7 // S e.1.1∧gz e.1.1<=50000}
def evc{S:Rl->Prop}(x:EvS S):List Value:=jQ x.1
theorem PN{S:Rl->Prop}:iV (EvS S) evc 12:=⟨fun _=>rfl,fun x v hv=>wX.one x.1 v hv⟩
theorem NS{S:Rl->Prop}(l:List (EvS S)):ah evc l=ah jQ (l.map (·.1)):=by
 induction l with
 |nil=>rfl
 |cons x l ih=>rw[gX,List.map_cons,gX,ih];rfl
def qis{S:Rl->Prop}{ρ:Rl->Int}(T:fZ S ρ):SWO (Go.Proofs.ltOf fun x y:EvS S=>wK x.1.1 y.1.1):=by
 have h:∀x y:EvS S,Go.Proofs.ltOf (fun x y:EvS S=>wK x.1.1 y.1.1) x y=decide (aT ρ x.1.1<aT ρ y.1.1):=fun x y=>by
  unfold Go.Proofs.ltOf;exact decide_eq_decide.2 (WU T x.2.1 y.2.1)
 refine⟨fun x=>?_,fun x y z=>?_,fun x y z=>?_⟩
 ·rw[h];simp
 ·rw[h,h,h];simp only[decide_eq_true_eq];omega
 ·rw[h,h,h];simp only[decide_eq_false_iff_not];omega
def WV{S:Rl->Prop}:∀{l:List J7},(∀e∈l,S e.1.1∧gz e.1.1<=50000)->∃l':List (EvS S),l'.map (·.1)=l
 |[],_=>⟨[],rfl⟩
 |e::l,h=>by
  obtain⟨l',e'⟩:=WV fun x hx=>h x (List.mem_cons_of_mem _ hx)
  exact⟨⟨e,h e (List.mem_cons_self ..)⟩::l',by rw[List.map_cons,e']⟩
end Go.Via
namespace Go.Proofs.YtaffcpfhedadhaaGreatDoor
open Go Go.RowKit Go.Via Go.Sort Go.Shelf
def qca{S:Rl->Prop}{ρ:Rl->Int}(T:fZ S ρ)(l:List J7)(b:Option Nat)(n cap:Nat)(hl:l.length<=cap)(hn:cap*12<=n)(hS:∀e∈l,S e.1.1∧gz e.1.1<=50000)(hc:l.length<=1000000:=by omega):
 BM Tryz.prog 192 [⟨b,253,ah jQ l,n,true⟩] [az b 0 l.length cap,.func (.func 193) #[] #[]] {l':List J7 // l'.Perm l∧l'.Pairwise (fun x y=>aT ρ x.1<=aT ρ y.1)} (fun _=> .tuple #[]) (fun z=>[⟨b,253,ah jQ z.1,n,true⟩]):=by
 refine⟨by kernel_rfl,fun B w hD hL=>?_⟩
 by_cases h0:l=[]
 ·subst h0;have h1:=AnyF.slices_SortFunc_none Tryz.sortEv (b.map fun g=>⟨g,0,none⟩) cap (.func (.func 193) #[] #[]) w;refine Calls.mono h1 ?_;rintro e w' ⟨rfl,rfl⟩;exact⟨⟨[],List.Perm.refl _,List.Pairwise.nil⟩,rfl,hL⟩
 ·cases b with
  |none=>
   have h2:=((hL.blk 0 _ rfl).2 rfl).1;have h3:=congrArg List.length h2;rw[wX.length] at h3;exact absurd (List.eq_nil_of_length_eq_zero (by rw[List.length_nil] at h3;omega)) h0
  |some g=>
   have hl0:=List.length_pos_iff.2 h0;have hn0:n≠0:=(by omega);obtain⟨l',rfl⟩:=WV hS;have hd:∃x:EvS S,x∈l':=List.exists_mem_of_ne_nil _ (fun e=>h0 (by rw[e];rfl));obtain⟨d,_⟩:=hd
   letI:Inhabited (EvS S):=⟨d⟩
   rw[<-NS] at hL;have hlen:(l'.map (·.1)).length=l'.toArray.size:=by simp
   have h1:=AnyQ.slices_SortFunc Tryz.sortEv 12 Tryz.isAgg253 Tryz.sizeOf253 evc (fun x=>rfl) (fun x v hv=>wX.one x.1 v hv) (fun x y:EvS S=>wK x.1.1 y.1.1) (qis T) 193 #[] g 0 cap l'.toArray w
    (enters_of Tryz.func193 (by kernel_rfl) rfl) (@WH (EvS S) _ evc 12 mo1 trivial Tryz.prog 193 (fun x y=>wK x.1.1 y.1.1) (fun x y=> @Hr mo1 x.1 y.1 x.2.2 y.2.2) g 0 l'.toArray.size w)
    (NJ PN (j:=0) hL rfl hn0) (hL.lt (k:=0) rfl rfl) (by simp at hc ⊢;omega)
   rw[<-hlen] at h1;refine Calls.mono h1 ?_;rintro e w' ⟨rfl,d',m,os,hp,hs,rfl⟩;rw[hlen] at hp hs;have hp':=qe7 hp;have hs':=YL hs hp.1;refine⟨⟨d'.toList.map (·.1),hp'.map _,?_⟩,rfl,?_⟩
   ·rw[List.pairwise_map];refine hs'.imp fun {x y} h=>?_
    have h2:¬wK y.1.1 x.1.1<0:=of_decide_eq_false h;rw[WU T y.2.1 x.2.1] at h2;omega
   ·show aV B [⟨some g,253,ah jQ (d'.toList.map (·.1)),n,true⟩] _;rw[<-NS];have hx:=EN PN (j:=0) (m:=m) (os:=os) (l':=d'.toList) hL rfl (by rw[PN.length,hp'.length_eq];simp at hl;omega) hn0
    simpa using hx
end Go.Proofs.YtaffcpfhedadhaaGreatDoor
namespace Go.Via
open Go
def qfp(a b c:Int)(i:Nat)(h:i<3):([.int .i64 a,.int .i64 b,.int .i64 c]:List Value)[i]? =some (.int .i64 ([a,b,c].getD i 0)):=by
 rcases(show i=0∨i=1∨i=2 by omega) with rfl|rfl|rfl<;>rfl
def or3(a b c:Int):Int:=if a≠0 then a else if b≠0 then b else c
theorem qfq{a b c:Int}{i:Nat}(hi:i<3)(h:∀j,j<i->[a,b,c].getD j 0=0)(hn:[a,b,c].getD i 0≠0):or3 a b c=[a,b,c].getD i 0:=by
 have h0:=h 0;have h1:=h 1;rcases(show i=0∨i=1∨i=2 by omega) with rfl|rfl|rfl<;>simp at hn h0 h1 ⊢ <;>unfold or3<;>simp_all
theorem qiu{a b c:Int}(h:∀j,j<3->[a,b,c].getD j 0=0):or3 a b c=0:=by
 have h0:=h 0 (by omega);have h1:=h 1 (by omega);have h2:=h 2 (by omega);simp at h0 h1 h2;unfold or3;simp_all
def qcb{a b c:Int}{i:Nat}(h:∀j,j<i->[a,b,c].getD j 0=0)(hn:[a,b,c].getD i 0=0):∀j,j<i+1->[a,b,c].getD j 0=0:=fun j hj=>by
 by_cases e:j=i
 ·rw[e];exact hn
 ·exact h j (by omega)
def opI(i:Iv):Int:=if i.fo=true then 1 else 0
theorem qcc(a b:PU):or3 (bK a.i.f b.i.f) (if opI a.i<opI b.i then-1 else if opI b.i<opI a.i then 1 else 0) (bK a.i.t b.i.t)=Lp a b:=by
 unfold or3 Lp qic opI;cases a.i.fo<;>cases b.i.fo<;>simp
def UW{f:Ln}(h:ja f<=10000):tJ (qx f)<=10000:=by
 have:=qK f;have:=qL f;have:=vX;unfold tJ qx;dsimp only;omega
def UX{f:Ln}(h:ja f<=10000):tJ (qy f)<=10000:=by
 have:=qM f;have:=qO f;have:=vX;unfold tJ qy;dsimp only;omega
def qgs(f:Ln)(t:Rl):(uz (qx f) t).c0=(iU f t).x0∧(uz (qx f) t).c1=(iU f t).x1∧(uz (qy f) t).c0=(iU f t).y0∧(uz (qy f) t).c1=(iU f t).y1:=by
 unfold uz iU
 by_cases h:t.r=0
 ·rw[if_pos h,if_pos h,if_pos h];exact⟨rfl,rfl,rfl,rfl⟩
 ·rw[if_neg h,if_neg h,if_neg h];unfold BP qx qy;refine⟨?_,?_,?_,?_⟩<;>dsimp only<;>grind
theorem WW(f g:Ln)(t:Rl):(decide (uz (o9 (qx f) (qx g)) t=⟨0,0,0⟩)&&decide (uz (o9 (qy f) (qy g)) t=⟨0,0,0⟩))=oJ f g t:=by
 have z0:(0:Rat)-0=0:=(by grind);have hx:o9 (qx f) (qx g)=qx (Dc f g):=(by unfold o9 qx Dc;dsimp only;rw[z0]);have hy:o9 (qy f) (qy g)=qy (Dc f g):=(by unfold o9 qy Dc;dsimp only;rw[z0]);rw[hx,hy];obtain⟨h1,h2,h3,h4⟩:=qgs (Dc f g) t;have z1:(uz (qx (Dc f g)) t).c2=0:=by unfold uz;split<;>rfl
 have z2:(uz (qy (Dc f g)) t).c2=0:=by unfold uz;split<;>rfl
 have e1:uz (qx (Dc f g)) t=⟨(iU (Dc f g) t).x0,(iU (Dc f g) t).x1,0⟩:=(by rw[<-h1,<-h2,<-z1]);have e2:uz (qy (Dc f g)) t=⟨(iU (Dc f g) t).y0,(iU (Dc f g) t).y1,0⟩:=(by rw[<-h3,<-h4,<-z2]);unfold oJ;rw[e1,e2,Bool.eq_iff_iff,Bool.and_eq_true,decide_eq_true_eq,decide_eq_true_eq,decide_eq_true_eq]
 generalize iU (Dc f g) t=r
 obtain⟨a,b,c,d⟩:=r;simp[and_assoc]
end Go.Via
namespace Go.Proofs.YtaffcpfhedadhaaGreatDoor
open Go Go.RowKit Go.Via
variable[Mo]
def YR(a b c:Int)(g:Nat):bW Tryz.prog 218 [⟨some g,3,[.int .i64 a,.int .i64 b,.int .i64 c],3,false⟩] [az (some g) 0 3 3] Unit (fun _=> .int .i64 (or3 a b c)) (fun _=>[]):=by
 refine MI 18 Tryz.func218 fun w hL0=>?_;refine A19 ?_;refine El (ι:={i:Nat // i<=3∧∀j,j<i->[a,b,c].getD j 0=0}) (fun⟨i,hi,ha⟩=>([(3,.int .i64 0),(6,az (some g) 0 3 3),(7,.int .i64 3),(8,aZ i)],[⟨some g,3,[.int .i64 a,.int .i64 b,.int .i64 c],3,false⟩],3-i)) ⟨0,by omega,fun j h=>absurd h (by omega)⟩ ?_;rintro⟨i,hi,ha⟩;(try dsimp only);refine A6 ?_;refine Cd ?_ ?_<;>intro haQ
 ·have hlt:i<3:=(by have:=of_decide_eq_true haQ;omega);refine A6 ?_;refine Ix 0 i ?_;refine Oj (v:= .int .i64 ([a,b,c].getD i 0)) 0 i wF rfl rfl rfl rfl (qfp a b c i hlt) ?_;refine kN ?_;refine Cd ?_ ?_<;>intro hbQ
  ·have hne:[a,b,c].getD i 0≠0:=by simpa using hbQ
   refine lw ?_;refine aF rfl (aj rfl) (fun w hL=>⟨(),?_,hL.pk []⟩);rw[qfq hlt ha hne]
  ·have he:[a,b,c].getD i 0=0:=by simpa using hbQ
   refine A4 ?_;refine dh ?_;exact Nl ⟨i+1,hlt,qcb ha he⟩
 ·have hge:i=3:=(by have:=of_decide_eq_false haQ;omega);subst hge;refine lw ?_;refine aF rfl (aj rfl) (fun w hL=>⟨(),?_,hL.pk []⟩);rw[qiu ha]
def J8(i:Iv):aH Tryz.prog 217 #[kG i] (.int .i64 (opI i)):=by
 refine uX 5 Tryz.func217 fun w=>?_;refine A2 ?_;refine Bp 20 (fun g0=>?_);refine kN ?_;refine Cd ?_ ?_<;>intro haQ
 ·refine A7 ?_;refine E0 ?_;rw[opI,if_pos haQ]
 ·refine A8 ?_;refine E0 ?_;rw[opI,if_neg (by rw[haQ];decide)]
def YS(a b:PU)(ha:jB a.i<=50000:=by omega)(hb:jB b.i<=50000:=by omega):aH Tryz.prog 216 #[UG a,UG b] (.int .i64 (Lp a b)):=by
 have a1:=Nat.le_trans (jI a.i) ha;have a2:=Nat.le_trans (jJ a.i) ha;have b1:=Nat.le_trans (jI b.i) hb;have b2:=Nat.le_trans (jJ b.i) hb;refine nG 31 Tryz.func216 fun w=>?_;refine A2 ?_;refine Bp 36 (fun g0=>?_);refine Bp 36 (fun g1=>?_);refine A9 ?_;refine Dp [] [0,1,2,3,4,5,7,8,9,11,12,13,16,17,18,19,20,21,6,10,14,15,22,23,24,25] ?_ (hc:=(nV [0,1,3,0,8,24,63,0,0,256,1023,0,0,4096,16383,32767,0,65536,196608,0,524288,1572864,4194303,8388607,16777215,33554431] (by kernel_rfl)));refine A2 ?_;refine L9 0 0 ?_;refine A2 ?_;refine L9 1 0 ?_;refine A2 ?_;refine xZ 0 0 ?_;refine A2 ?_;refine xZ 1 0 ?_;refine A2 ?_;refine L9 0 9 ?_;refine A2 ?_;refine L9 1 9 ?_;refine Pc (dH a.i.f b.i.f) ?_;refine nO [_] rfl rfl rfl rfl (J8 a.i) ?_;refine nO [_] rfl rfl rfl rfl (J8 b.i) ?_;refine Pc (wM (opI a.i) (opI b.i)) ?_;refine Pc (dH a.i.t b.i.t) ?_;refine(Bl 3 [(0,_),(1,_),(2,_)]) (qdQ) (fun g2=>?_);refine(Sd [2]) (YR _ _ _ _) ?_;refine A4 ?_;refine E0 ?_;rw[qcc]
end Go.Proofs.YtaffcpfhedadhaaGreatDoor
namespace Go.Via
open Go Go.Sort Go.Proofs
abbrev PUS:={u:PU // jB u.i<=50000}
def puc(x:PUS):List Value:=aJ x.1
theorem PO:iV PUS puc 36:=⟨fun _=>rfl,fun x v hv=>aB.one x.1 v hv⟩
theorem NT(l:List PUS):ah puc l=ah aJ (l.map (·.1)):=by
 induction l with
 |nil=>rfl
 |cons x l ih=>rw[gX,List.map_cons,gX,ih];rfl
def WX:∀{l:List PU},(∀u∈l,jB u.i<=50000)->∃l':List PUS,l'.map (·.1)=l
 |[],_=>⟨[],rfl⟩
 |e::l,h=>by
  obtain⟨l',e'⟩:=WX fun x hx=>h x (List.mem_cons_of_mem _ hx)
  exact⟨⟨e,h e (List.mem_cons_self ..)⟩::l',by rw[List.map_cons,e']⟩
def WY(l:List PU):Prop:=l.Pairwise fun x y=>decide (Lp y x<0)=false
end Go.Via
namespace Go.Proofs.YtaffcpfhedadhaaGreatDoor
open Go Go.RowKit Go.Via Go.Sort Go.Shelf
def qfs(l:List PU)(b:Option Nat)(n cap:Nat)(hs:WY l)(hz:∀u∈l,jB u.i<=50000)(hl:l.length<=cap:=by omega)(hn:cap*36<=n:=by omega)(hc:l.length<=1000000:=by omega):
 BM Tryz.prog 264 [⟨b,201,ah aJ l,n,true⟩] [az b 0 l.length cap,.int .i64 0,.int .i64 (l.length:Nat),.func (.func 216) #[] #[]] Unit (fun _=> .tuple #[]) (fun _=>[⟨b,201,ah aJ l,n,true⟩]):=by
 refine⟨by kernel_rfl,fun B w hD hL=>?_⟩
 by_cases h0:l=[]
 ·subst h0;have h1:=AnyF.insertionSortCmpFunc_none Tryz.insPU (b.map fun g=>⟨g,0,none⟩) cap (.func (.func 216) #[] #[]) w;refine Calls.mono h1 ?_;rintro e w' ⟨rfl,rfl⟩;exact⟨(),rfl,hL⟩
 ·cases b with
  |none=>
   have h2:=((hL.blk 0 _ rfl).2 rfl).1;have h3:=congrArg List.length h2;rw[aB.length] at h3;exact absurd (List.eq_nil_of_length_eq_zero (by rw[List.length_nil] at h3;omega)) h0
  |some g=>
   have hl0:=List.length_pos_iff.2 h0;have hn0:n≠0:=(by omega);obtain⟨l',rfl⟩:=WX hz;have hd:∃x:PUS,x∈l':=List.exists_mem_of_ne_nil _ (fun e=>h0 (by rw[e];rfl));obtain⟨d,_⟩:=hd
   letI:Inhabited PUS:=⟨d⟩
   rw[<-NT] at hL;have hlen:(l'.map (·.1)).length=l'.toArray.size:=by simp
   have h1:=AnyQ.insertionSortCmpFunc Tryz.insPU 36 Tryz.isAgg201 Tryz.sizeOf201 puc (fun x=>rfl) (fun x v hv=>aB.one x.1 v hv) (fun x y:PUS=>Lp x.1 y.1) 216 #[] g 0 cap 0 l'.toArray.size l'.toArray w
    (enters_of Tryz.func216 (by kernel_rfl) rfl) (@WH PUS _ puc 36 mo1 trivial Tryz.prog 216 (fun x y=>Lp x.1 y.1) (fun x y=> @YS mo1 x.1 y.1 x.2 y.2) g 0 l'.toArray.size w)
    (NJ PO (j:=0) hL rfl hn0) (hL.lt (k:=0) rfl rfl) (Nat.zero_le _) (Nat.le_refl _) (by simp at hc ⊢;omega)
   rw[<-hlen] at h1;refine Calls.mono h1 ?_;rintro e w' ⟨rfl,m,os,rfl⟩;have hid:Sort.insertionSort (ltOf fun x y:PUS=>Lp x.1 y.1) l'.toArray 0 (l'.map (·.1)).length=l'.toArray:=by
    rw[List.length_map];refine Pn ?_;have:=List.pairwise_map.1 hs;exact this
   rw[hid];refine⟨(),rfl,?_⟩;rw[<-NT];have hx:=EN PO (j:=0) (m:=m) (os:=os) (l':=l') hL rfl (by rw[PO.length];simp at hl;omega) hn0
   simpa using hx
end Go.Proofs.YtaffcpfhedadhaaGreatDoor
namespace Go.Via
open Go
instance{n s:Nat}:Nonempty (OR n s):=⟨⟨none,n*s,n,Nat.le_refl _,Nat.le_refl _⟩⟩
theorem qp{l:List PU}{i:Nat}{x:PU}(hx:l[i]? =some x):aA (l.take i)++ig x=aA (l.take (i+1)):=by
 rw[<-dZ hx];unfold aA;rw[List.flatMap_append];simp
def yH(t:Rl)(f:Ln):PU:=⟨⟨t,t,false,false⟩,f⟩
def lS(x:PU):PU:=⟨⟨x.i.f,x.i.t,true,true⟩,x.f⟩
theorem qcd{x:PU}(h1:x.i.fo=false)(h2:dY x.i=true):ig x=[yH x.i.f x.f]:=by unfold ig;rw[h1,h2];rfl
theorem qce{x:PU}(h1:x.i.fo=false)(h2:dY x.i=false)(h3:x.i.tp=false):ig x=[yH x.i.f x.f,lS x,yH x.i.t x.f]:=by unfold ig;rw[h1,h2,h3];rfl
theorem qcf{x:PU}(h1:x.i.fo=false)(h2:dY x.i=false)(h3:x.i.tp=true):ig x=[yH x.i.f x.f,lS x]:=by unfold ig;rw[h1,h2,h3];rfl
theorem qcg{x:PU}(h1:x.i.fo=true)(h2:dY x.i=true):ig x=[]:=by unfold ig;rw[h1,h2];rfl
theorem qch{x:PU}(h1:x.i.fo=true)(h2:dY x.i=false)(h3:x.i.tp=false):ig x=[lS x,yH x.i.t x.f]:=by unfold ig;rw[h1,h2,h3];rfl
theorem qci{x:PU}(h1:x.i.fo=true)(h2:dY x.i=false)(h3:x.i.tp=true):ig x=[lS x]:=by unfold ig;rw[h1,h2,h3];rfl
theorem NU{l:List PU}{u:PU}{t:Rl}(h:l[l.length-1]? =some u):oW l t=(decide (u.i.t=t)&& !u.i.tp):=by
 unfold oW;rw[List.getLast?_eq_getElem?,h]
theorem YT{l:List PU}{t:Rl}(h:¬0<l.length):oW l t=false:=by
 have:l=[]:=List.eq_nil_of_length_eq_zero (by omega);subst this;rfl
def YU{l:List PU}{t:Rl}(h:¬0<l.length):sU l t=none:=by
 have:l=[]:=List.eq_nil_of_length_eq_zero (by omega);subst this;rfl
def qft{l:List PU}{u:PU}{t:Rl}(h:l[l.length-1]? =some u)(h1:u.i.t≠t):sU l t=none:=by
 unfold sU;rw[List.getLast?_eq_getElem?,h];dsimp only;rw[if_neg fun e=>h1 e.1]
def qfu{l:List PU}{u:PU}{t:Rl}(h:l[l.length-1]? =some u)(h1:dY u.i=true):sU l t=none:=by
 unfold sU;rw[List.getLast?_eq_getElem?,h];dsimp only;rw[if_neg fun e=>by rw[e.2] at h1;cases h1]
def qfv{l:List PU}{u:PU}{t:Rl}(h:l[l.length-1]? =some u)(h1:u.i.t=t)(h2:dY u.i=false):sU l t=some u:=by
 unfold sU;rw[List.getLast?_eq_getElem?,h];dsimp only;rw[if_pos ⟨h1,h2⟩]
def qcj{l:List PU}{u:PU}{t:Rl}(h:sU l t=some u):l[l.length-1]? =some u∧u.i.t=t∧dY u.i=false:=by
 obtain⟨h1,h2⟩:=xG h;rw[List.getLast?_eq_getElem?] at h1;exact⟨h1,h2⟩
def WZ(ob:Option Nat)(n:Nat):Option PU->Option Addr
 |none=>none
 |some _=>some ⟨ob.getD 0,(n-1)*36,none⟩
def oz(A:List PU):Nat->Option PU
 |0=>none
 |i+1=>A[i]?
def nrm(A:List PU)(i:Nat)(o:List PU):List PU:=uo (oz A i) o (A.drop i)
theorem rG{A:List PU}{i:Nat}{x:PU}{o:List PU}(hx:A[i]? =some x):nrm A i o=nrm A (i+1) (jU o (oz A i) x A[i+1]?):=by
 unfold nrm;rw[uO hx];show uo (some x) (jU o (oz A i) x (A.drop (i+1)).head?) (A.drop (i+1))=_;rw[List.head?_drop];show _=uo (A[i]?) _ _;rw[hx]
def qfw{A o:List PU}:nrm A A.length o=o:=by unfold nrm;rw[List.drop_length];cases oz A A.length<;>rfl
theorem SN{o:List PU}{u v:PU}(h:o[o.length-1]? =some u):o.set (o.length-1) v=iY o v:=by
 have hne:o≠[]:=fun e=>by rw[e] at h;simp at h
 have e:o=o.dropLast++[u]:=by
  have h2:o.getLast? =some u:=(by rw[List.getLast?_eq_getElem?];exact h);exact oZ h2
 unfold iY;rw[e];simp
def Ah(o:List PU)(prev:Option PU)(x:PU):Bool:=match prev with
 |some p=>if dY p.i=true∧p.i.f=x.i.f∧oW o x.i.f=false then false else x.i.fo
 |none=>x.i.fo
section
variable{o:List PU}{prev next:Option PU}{x b:PU}
theorem ql4(hi:dY x.i=false)(hb:sU o x.i.f=some b)(h1:b.i.tp=false)(h2:b.f=x.f):jU o prev x next=iY o ⟨⟨b.i.f,x.i.t,b.i.fo,true⟩,b.f⟩:=by
 unfold jU;rw[hi,hb];dsimp only;rw[if_pos ⟨h1,h2⟩]
def qkg(hi:dY x.i=false)(hb:sU o x.i.f=some b)(h:¬(b.i.tp=false∧b.f=x.f)):jU o prev x next=o++[⟨⟨x.i.f,x.i.t,Ah o prev x,x.i.tp⟩,x.f⟩]:=by
 unfold jU;rw[hi,hb];dsimp only;rw[if_neg h];rfl
def ql5(hi:dY x.i=false)(hb:sU o x.i.f=none):jU o prev x next=o++[⟨⟨x.i.f,x.i.t,Ah o prev x,x.i.tp⟩,x.f⟩]:=by
 unfold jU;rw[hi,hb];rfl
theorem ql6(hi:dY x.i=true)(hb:sU o x.i.f=some b)(h:oJ b.f x.f x.i.f=true):jU o prev x next=iY o ⟨⟨b.i.f,b.i.t,b.i.fo,false⟩,b.f⟩:=by
 unfold jU;rw[hi,hb];dsimp only;rw[if_pos h]
def yP(o:List PU)(next:Option PU)(x:PU):List PU:=match next with
 |some n=>if n.i.f=x.i.f∧oJ n.f x.f x.i.f=true then o else o++[⟨x.i,iU x.f x.i.f⟩]
 |none=>o++[⟨x.i,iU x.f x.i.f⟩]
def ql7(hi:dY x.i=true)(hb:sU o x.i.f=some b)(h:oJ b.f x.f x.i.f=false):jU o prev x next=yP o next x:=by
 unfold jU;rw[hi,hb];dsimp only;rw[if_neg (by rw[h];decide)];rfl
def ql8(hi:dY x.i=true)(hb:sU o x.i.f=none):jU o prev x next=yP o next x:=by
 unfold jU;rw[hi,hb];rfl
def qgt(h:prev=none):Ah o prev x=x.i.fo:=by rw[h];rfl
def Gf{p:PU}(h:prev=some p)(h1:¬(dY p.i=true∧p.i.f=x.i.f∧oW o x.i.f=false)):Ah o prev x=x.i.fo:=by
 rw[h];unfold Ah;dsimp only;rw[if_neg h1]
def qck{p:PU}(h:prev=some p)(h1:dY p.i=true)(h2:p.i.f=x.i.f)(h3:oW o x.i.f=false):Ah o prev x=false:=by
 rw[h];unfold Ah;dsimp only;rw[if_pos ⟨h1,h2,h3⟩]
theorem qgu(h:next=none):yP o next x=o++[⟨x.i,iU x.f x.i.f⟩]:=by rw[h];rfl
theorem qiw{n:PU}(h:next=some n)(h1:n.i.f=x.i.f)(h2:oJ n.f x.f x.i.f=true):yP o next x=o:=by rw[h];unfold yP;dsimp only;rw[if_pos ⟨h1,h2⟩]
theorem UY{n:PU}(h:next=some n)(h1:¬(n.i.f=x.i.f∧oJ n.f x.f x.i.f=true)):yP o next x=o++[⟨x.i,iU x.f x.i.f⟩]:=by rw[h];unfold yP;dsimp only;rw[if_neg h1]
end
def qkh{o:List PU}{next:Option PU}{x n:PU}(h:next=some n)(h1:n.i.f=x.i.f):yP o next x=if oJ n.f x.f x.i.f=true then o else o++[⟨x.i,iU x.f x.i.f⟩]:=by
 cases hs:oJ n.f x.f x.i.f
 ·rw[UY h (fun e=>by rw[hs] at e;cases e.2)];rfl
 ·rw[qiw h h1 hs];rfl
def SQ{A:List PU}{i:Nat}{p:PU}(hi:0<i)(hp:A[i-1]? =some p):oz A i=some p:=by
 obtain⟨j,rfl⟩:∃j,i=j+1:=⟨i-1,by omega⟩;exact hp
def YV{S:Rl->Prop}{ρ:Rl->Int}(T:fZ S ρ){l:List PU}(hs:pJ ρ l)(he:Go.Via.Ends S l){i:Nat}{u x:PU}(hi:0<i)(hu:l[i-1]? =some u)(hx:l[i]? =some x):EI u.i x.i=true:=by
 obtain⟨h1,rfl⟩:=List.getElem?_eq_some_iff.1 hu;obtain⟨h2,rfl⟩:=List.getElem?_eq_some_iff.1 hx;have:=List.pairwise_iff_getElem.1 hs.1 (i-1) i h1 h2 (by omega);exact(Rz T (he _ (List.getElem_mem h1)).2 (he _ (List.getElem_mem h2)).1).2 this
def J9{l:List PU}{a b:Nat}(hz:∀u∈l,jB u.i<=a∧ja u.f<=b):∀x∈aA l,jB x.i<=a∧ja x.f<=b:=fun x hx=>by
 obtain⟨u,hu,hx⟩:=List.mem_flatMap.1 hx;obtain⟨h1,h2⟩:=hz u hu;have h3:=jI u.i;have h4:=jJ u.i;unfold ig at hx;rcases List.mem_append.1 hx with hx|hx
 ·split at hx
  ·cases hx
  ·rw[List.mem_singleton] at hx;subst hx;exact⟨wW (Nat.le_trans h3 h1) (Nat.le_trans h3 h1),h2⟩
 ·split at hx
  ·cases hx
  ·rcases List.mem_cons.1 hx with hx|hx
   ·subst hx;exact⟨wW (Nat.le_trans h3 h1) (Nat.le_trans h4 h1),h2⟩
   ·split at hx
    ·cases hx
    ·rw[List.mem_singleton] at hx;subst hx;exact⟨wW (Nat.le_trans h4 h1) (Nat.le_trans h4 h1),h2⟩
def UZ{o:List PU}{k n:Nat}{i:Iv}{f:Ln}(h:∀u∈o,ja u.f<=n)(hf:ja f<=n):∀u∈o.set k ⟨i,f⟩,ja u.f<=n:=fun u hu=>by
 rcases List.mem_or_eq_of_mem_set hu with h1|h1
 ·exact h u h1
 ·subst h1;exact hf
def PP{o:List PU}{n:Nat}{i:Iv}{f:Ln}(h:∀u∈o,ja u.f<=n)(hf:ja f<=n):∀u∈o++[⟨i,f⟩],ja u.f<=n:=fun u hu=>by
 rcases List.mem_append.1 hu with h1|h1
 ·exact h u h1
 ·rw[List.mem_singleton] at h1;subst h1;exact hf
def W9{f:Ln}{t:Rl}(hf:ja f<=1000)(ht:gz t<=1000):ja (iU f t)<=8000:=by
 have h3:=rD t;have a0:=qK f;have a1:=qL f;have a2:=qM f;have a3:=qO f;have z:=vX;have h1:bV (vT (qx f) t.p)<=5000:=by
  have h:=wV (qx f) t.p;have e:bV (qx f).c2<=2:=z;have e0:bV (qx f).c0=bV f.x0:=rfl;have e1:bV (qx f).c1=bV f.x1:=rfl;omega
 have h2:bV (vT (qy f) t.p)<=5000:=by
  have h:=wV (qy f) t.p;have e:bV (qy f).c2<=2:=z;have e0:bV (qy f).c0=bV f.y0:=rfl;have e1:bV (qy f).c1=bV f.y1:=rfl;omega
 unfold iU
 split
 ·show max (max (bV (vT (qx f) t.p)) (bV 0)) (max (bV (vT (qy f) t.p)) (bV 0))<=8000;omega
 ·omega
end Go.Via
namespace Go.Proofs.YtaffcpfhedadhaaGreatDoor
open Go
def qfx:Tryz.prog.underlying 242=some (.pointer 201):=by kernel_rfl
end Go.Proofs.YtaffcpfhedadhaaGreatDoor
