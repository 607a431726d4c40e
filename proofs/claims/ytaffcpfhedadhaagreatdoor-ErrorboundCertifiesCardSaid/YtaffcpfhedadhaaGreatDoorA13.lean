/-
  Part 13 (chapter 32): lemmas, walks. Each theorem states its own conditions.
-/
import Derived.Shelf.SlSortCmp.WholeK
import Derived.Shelf.SlSortCmp.NoneTotal
import Derived.Test.YtaffcpfhedadhaaGreatDoorA08
import Derived.Test.YtaffcpfhedadhaaGreatDoorA10
import Derived.Test.YtaffcpfhedadhaaGreatDoorA11
set_option linter.all false
set_option maxRecDepth 20000
set_option maxHeartbeats 20000000
namespace Go.Proofs.YtaffcpfhedadhaaGreatDoor
open Go Go.RowKit Go.Via
def tiL:List (Nat×TI):=((3,⟨false,1,[]⟩)::(4,⟨false,1,[]⟩)::(5,⟨false,1,[]⟩)::(9,⟨false,1,[]⟩)::(22,⟨false,1,[]⟩)::(24,⟨true,4,[(0,1),(1,1),(2,1),(3,1)]⟩)::(26,⟨true,9,[(0,4),(4,4),(8,1)]⟩)::(32,⟨false,1,[]⟩)::(34,⟨true,2,[(0,1),(1,1)]⟩)::(36,⟨true,4,[(0,2),(2,2)]⟩)::(38,⟨true,9,[(0,4),(4,4),(8,1)]⟩)::(40,⟨true,10,[(0,1),(1,9)]⟩)::(48,⟨true,5,[(0,1),(1,1),(2,1),(3,1),(4,1)]⟩)::(55,⟨true,4,[(0,1),(1,1),(2,1),(3,1)]⟩)::(57,⟨true,6,[(0,1),(1,1),(2,4)]⟩)::(61,⟨true,20,[(0,9),(9,9),(18,1),(19,1)]⟩)::(63,⟨true,38,[(0,20),(20,9),(29,9)]⟩)::(74,⟨false,1,[]⟩)::(86,⟨true,4,[(0,1),(1,1),(2,1),(3,1)]⟩)::(91,⟨true,12,[(0,4),(4,4),(8,4)]⟩)::(93,⟨true,32,[(0,20),(20,12)]⟩)::(98,⟨true,16,[(0,4),(4,4),(8,4),(12,4)]⟩)::(100,⟨true,36,[(0,20),(20,16)]⟩)::(118,⟨false,1,[]⟩)::(120,⟨true,3,[(0,1),(1,1),(2,1)]⟩)::(130,⟨true,3,[]⟩)::(135,⟨true,8,[(0,4),(4,4)]⟩)::(137,⟨true,12,[(0,4),(4,8)]⟩)::(148,⟨false,1,[]⟩)::(151,⟨true,52,[(0,20),(20,16),(36,16)]⟩)::(174,⟨true,12,[]⟩)::(181,⟨true,21,[(0,20),(20,1)]⟩)::(184,⟨true,21,[(0,20),(20,1)]⟩)::(197,⟨true,0,[]⟩)::(201,⟨true,36,[(0,20),(20,16)]⟩)::(209,⟨true,10,[(0,9),(9,1)]⟩)::(221,⟨false,1,[]⟩)::(251,⟨true,2,[]⟩)::(253,⟨true,12,[(0,10),(10,2)]⟩)::(272,⟨false,1,[]⟩)::(286,⟨true,8,[]⟩)::(306,⟨false,1,[]⟩)::(308,⟨true,2,[(0,1),(1,1)]⟩)::(317,⟨true,256,[]⟩)::(328,⟨false,1,[]⟩)::(352,⟨true,2,[(0,1),(1,1)]⟩)::(353,⟨true,32,[]⟩)::[])
def qjD(T:Nat):TI:=(tiL.lookup T).getD ⟨false,0,[]⟩
def tiK:tiL.all (fun p=>dP Tryz.prog p.1 p.2)=true:=by kernel_rfl
def Jo{α:Type}:∀{l:List (Nat×α)} {k:Nat} {v:α},l.lookup k=some v->(k,v)∈l
 |(a,b)::l,k,v,h=>by
  rw[List.lookup_cons] at h
  split at h
  ·rename_i e;cases h;rw[eq_of_beq e];exact List.mem_cons_self
  ·exact List.mem_cons_of_mem _ (Jo h)
def qjE{α:Type}{p:Nat->α->Bool}{l:List (Nat×α)}{k:Nat}{v:α}(h:l.all (fun x=>p x.1 x.2)=true)(hv:l.lookup k=some v):p k v=true:=List.all_eq_true.1 h _ (Jo hv)
def slB(o:Option TypeDesc)(e:Nat):Bool:=match o with
 |some (.slice e')=>e'==e
 |_=>false
def qhu{o:Option TypeDesc}{e:Nat}(h:slB o e=true):o=some (.slice e):=by
 unfold slB at h
 split at h
 ·rw[eq_of_beq h]
 ·cases h
def stB(o:Option TypeDesc):Bool:=match o with
 |some .string=>true
 |_=>false
def qhv{o:Option TypeDesc}(h:stB o=true):o=some .string:=by
 unfold stB at h
 split at h
 ·rfl
 ·cases h
def uY(T:Nat)(h:(tiL.lookup T).isSome=true:=by rfl):dP Tryz.prog T (qjD T)=true:=by
 obtain⟨v,hv⟩:=Option.isSome_iff_exists.1 h;unfold qjD;rw[hv,Option.getD_some];exact qjE (p:=fun a b=>dP Tryz.prog a b) tiK hv
def elL:List (Nat×Nat):=((22,86)::(29,100)::(32,63)::(74,61)::(88,93)::(118,3)::(146,151)::(148,201)::(153,38)::(177,181)::(182,184)::(186,32)::(221,5)::(249,253)::(250,74)::(270,272)::[])
def qjF(T:Nat):Nat:=(elL.lookup T).getD 0
def elK:elL.all (fun p=>slB (Tryz.prog.underlying p.1) p.2)=true:=by kernel_rfl
def uA(T:Nat)(h:(elL.lookup T).isSome=true:=by rfl):Tryz.prog.underlying T=some (.slice (qjF T)):=by
 obtain⟨v,hv⟩:=Option.isSome_iff_exists.1 h;unfold qjF;rw[hv];have:=qjE (p:=fun a b=>slB (Tryz.prog.underlying a) b) elK hv
 rw[Option.getD_some];exact qhu this
def stL:List Nat:=(9::[])
def stK:stL.all (fun T=>stB (Tryz.prog.underlying T))=true:=by kernel_rfl
def uT(T:Nat)(h:stL.contains T=true:=by rfl):Tryz.prog.underlying T=some .string:=by
 exact qhv (List.all_eq_true.1 stK T (List.contains_iff_mem.1 h))
end Go.Proofs.YtaffcpfhedadhaaGreatDoor
namespace Go.Proofs
open Go.Shelf
def Tryz.sortEv_ren:Go.Shelf.Ren:=⟨fun|6=>192|14=>222|15=>223|20=>239|21=>240|22=>241|23=>242|24=>243|25=>244|26=>245|27=>246|28=>247|29=>226|46=>266|47=>267|48=>268|49=>269|50=>270|57=>284|n=>n,fun|0=>0|3=>3|4=>4|5=>5|9=>9|22=>249|24=>253|25=>255|39=>236|53=>272|55=>189|76=>343|66=>328|45=>297|46=>298|50=>139|77=>344|70=>332|n=>n,fun n=>n⟩
def Tryz.sortEv:SlLaysF0.n6 Tryz.prog Tryz.sortEv_ren where
 mixed:=by kernel_rfl
 f6:=⟨"slices.SortFunc[[]viator/period.event,viator/period.event]",by decide,Tryz.func192.trans (congrArg some (by kernel_rfl))⟩
 f14:=⟨"slices.pdqsortCmpFunc[viator/period.event]",by decide,Tryz.func222.trans (congrArg some (by kernel_rfl))⟩
 f15:=Tryz.func223.trans (congrArg some (by kernel_rfl))
 f20:=⟨"slices.insertionSortCmpFunc[viator/period.event]",by decide,Tryz.func239.trans (congrArg some (by kernel_rfl))⟩
 f21:=⟨"slices.heapSortCmpFunc[viator/period.event]",by decide,Tryz.func240.trans (congrArg some (by kernel_rfl))⟩
 f22:=⟨"slices.breakPatternsCmpFunc[viator/period.event]",by decide,Tryz.func241.trans (congrArg some (by kernel_rfl))⟩
 f23:=⟨"slices.choosePivotCmpFunc[viator/period.event]",by decide,Tryz.func242.trans (congrArg some (by kernel_rfl))⟩
 f24:=⟨"slices.reverseRangeCmpFunc[viator/period.event]",by decide,Tryz.func243.trans (congrArg some (by kernel_rfl))⟩
 f25:=⟨"slices.partialInsertionSortCmpFunc[viator/period.event]",by decide,Tryz.func244.trans (congrArg some (by kernel_rfl))⟩
 f26:=⟨"slices.partitionEqualCmpFunc[viator/period.event]",by decide,Tryz.func245.trans (congrArg some (by kernel_rfl))⟩
 f27:=⟨"slices.partitionCmpFunc[viator/period.event]",by decide,Tryz.func246.trans (congrArg some (by kernel_rfl))⟩
 f28:=Tryz.func247.trans (congrArg some (by kernel_rfl))
 f29:=Tryz.func226.trans (congrArg some (by kernel_rfl))
 f46:=⟨"slices.siftDownCmpFunc[viator/period.event]",by decide,Tryz.func266.trans (congrArg some (by kernel_rfl))⟩
 f47:=Tryz.func267.trans (congrArg some (by kernel_rfl))
 f48:=Tryz.func268.trans (congrArg some (by kernel_rfl))
 f49:=⟨"slices.medianAdjacentCmpFunc[viator/period.event]",by decide,Tryz.func269.trans (congrArg some (by kernel_rfl))⟩
 f50:=⟨"slices.medianCmpFunc[viator/period.event]",by decide,Tryz.func270.trans (congrArg some (by kernel_rfl))⟩
 f57:=⟨"slices.order2CmpFunc[viator/period.event]",by decide,Tryz.func284.trans (congrArg some (by kernel_rfl))⟩
 t0:=Tryz.underlying0
 a0:=Tryz.isAgg0
 z0:=Tryz.sizeOf0
 v0:=Tryz.zeroValue0
 t3:=Tryz.underlying3
 a3:=Tryz.isAgg3
 z3:=Tryz.sizeOf3
 v3:=Tryz.zeroValue3
 t4:=Tryz.underlying4
 a4:=Tryz.isAgg4
 z4:=Tryz.sizeOf4
 v4:=Tryz.zeroValue4
 t5:=Tryz.underlying5
 a5:=Tryz.isAgg5
 z5:=Tryz.sizeOf5
 v5:=Tryz.zeroValue5
 t9:=Tryz.underlying9
 a9:=Tryz.isAgg9
 z9:=Tryz.sizeOf9
 v9:=Tryz.zeroValue9
 t22:=Tryz.underlying249
 a22:=Tryz.isAgg249
 z22:=Tryz.sizeOf249
 v22:=Tryz.zeroValue249
 t25:=Tryz.underlying255
 a25:=Tryz.isAgg255
 z25:=Tryz.sizeOf255
 v25:=Tryz.zeroValue255
 t39:=Tryz.underlying236
 a39:=Tryz.isAgg236
 z39:=Tryz.sizeOf236
 v39:=Tryz.zeroValue236
 t45:=Tryz.underlying297
 a45:=Tryz.isAgg297
 z45:=Tryz.sizeOf297
 v45:=Tryz.zeroValue297
 t46:=Tryz.underlying298
 a46:=Tryz.isAgg298
 z46:=Tryz.sizeOf298
 v46:=Tryz.zeroValue298
 t50:=Tryz.underlying139
 a50:=Tryz.isAgg139
 z50:=Tryz.sizeOf139
 v50:=Tryz.zeroValue139
 t53:=Tryz.underlying272
 a53:=Tryz.isAgg272
 z53:=Tryz.sizeOf272
 v53:=Tryz.zeroValue272
 t55:=Tryz.underlying189
 a55:=Tryz.isAgg189
 z55:=Tryz.sizeOf189
 v55:=Tryz.zeroValue189
 t66:=Tryz.underlying328
 a66:=Tryz.isAgg328
 z66:=Tryz.sizeOf328
 v66:=Tryz.zeroValue328
 t70:=Tryz.underlying332
 a70:=Tryz.isAgg332
 z70:=Tryz.sizeOf332
 v70:=Tryz.zeroValue332
 t76:=Tryz.underlying343
 a76:=Tryz.isAgg343
 z76:=Tryz.sizeOf343
 v76:=Tryz.zeroValue343
 t77:=Tryz.underlying344
 a77:=Tryz.isAgg344
 z77:=Tryz.sizeOf344
 v77:=Tryz.zeroValue344
def Tryz.insPU_ren:Go.Shelf.Ren:=⟨fun|15=>223|20=>264|28=>247|29=>226|47=>267|48=>268|n=>n,fun|0=>0|3=>3|4=>4|5=>5|9=>9|22=>148|24=>201|25=>280|n=>n,fun n=>n⟩
def Tryz.insPU:SlLaysF0.n20 Tryz.prog Tryz.insPU_ren where
 mixed:=by kernel_rfl
 f20:=⟨"slices.insertionSortCmpFunc[viator/pieces.Unit[viator/api.Line]]",by decide,Tryz.func264.trans (congrArg some (by kernel_rfl))⟩
 t0:=Tryz.underlying0
 a0:=Tryz.isAgg0
 z0:=Tryz.sizeOf0
 v0:=Tryz.zeroValue0
 t3:=Tryz.underlying3
 a3:=Tryz.isAgg3
 z3:=Tryz.sizeOf3
 v3:=Tryz.zeroValue3
 t4:=Tryz.underlying4
 a4:=Tryz.isAgg4
 z4:=Tryz.sizeOf4
 v4:=Tryz.zeroValue4
 t22:=Tryz.underlying148
 a22:=Tryz.isAgg148
 z22:=Tryz.sizeOf148
 v22:=Tryz.zeroValue148
 t25:=Tryz.underlying280
 a25:=Tryz.isAgg280
 z25:=Tryz.sizeOf280
 v25:=Tryz.zeroValue280
end Go.Proofs
namespace Go.Via
open Go
def VJ(n i:Nat)(h:i<nb n):(bH n).data.toList[((nb n-1-i:Nat):Int).toNat]? =some (UInt8.ofNat (n/256^i%256)):=by
 have:=TU n (nb n-1-i) (by omega)
 rwa [show nb n-1-(nb n-1-i)=i by omega] at this
theorem Ud(n i j:Nat):yj n (i+1) j=if j=i/4 then yj n i (i/4)+2^(8*(i%4))*(n/256^i%256) else yj n i j:=by
 rw[XN];split
 ·rename_i e;rw[<-e]
 ·rfl
def qd1{x s:Int}(m k:Nat)(hx:x=(m:Int))(hs:s=(k:Int))(hk:k<=32):x.fdiv (2^(min s.toNat IntKind.u32.bits))=((m/2^k:Nat):Int):=by
 subst hx;subst hs;have:min (k:Int).toNat IntKind.u32.bits=k:=by rw[TB];omega
 rw[this,Int.fdiv_eq_ediv_of_nonneg _ (Int.pow_nonneg (by omega))];simp
def qai{l:List Nat}{N M i:Nat}(hl:∀d∈l,d<ae)(hN:val ae l=N)(hM:(ag ae N).length=M)(hi:i<M):l[i]? =some (N/ae^i%ae):=by
 subst hN;subst hM;have h1:=xu dG hl;have h2:=lq (B:=ae) dG hi;rw[<-h1,List.getElem?_take] at h2;rw[if_pos hi] at h2;exact h2
theorem Ue{l:List Nat}{N M:Nat}(hN:val ae l=N)(hM:(ag ae N).length=M)(h0:M=0):(⟨#[]⟩:ByteArray)=bH N:=by
 subst h0;have:N=0:=(vz dG).1 (List.eq_nil_of_length_eq_zero hM);rw[this,iQ]
theorem X6{N M:Nat}(hM:(ag ae N).length=M):N<256^(4*M):=by
 rw[<-Ea,<-hM];exact dO dG N
def Ei{m n:Nat}(h:(decide (nb m<=8)&&decide (nb n<=8))=true):m<18446744073709551616∧n<18446744073709551616∧nb m<=8∧nb n<=8:=by
 simp only[Bool.and_eq_true,decide_eq_true_eq] at h;have h1:=oH h.1;have h2:=oH h.2;exact⟨by omega,by omega,h.1,h.2⟩
def ug(X Y i:Nat):Nat:=(X%ae^i+Y%ae^i)/ae^i+X/ae^i%ae+Y/ae^i%ae
def uh(X Y i:Nat):Nat:=(X%ae^i+Y%ae^i)/ae^i
def qZ(X Y i j:Nat):Nat:=if j<i then(X+Y)/ae^j%ae else X/ae^j%ae
theorem cu(i:Nat):0<ae^i:=Nat.pow_pos (by decide)
def bf(n:Nat):n%ae<4294967296:=Nat.mod_lt _ (by decide)
def vI(X Y i:Nat):uh X Y i<=1:=by
 unfold uh;have h1:=Nat.mod_lt X (cu i);have h2:=Nat.mod_lt Y (cu i);have:(X%ae^i+Y%ae^i)/ae^i<2:=by rw[Nat.div_lt_iff_lt_mul (cu i)];omega
 omega
theorem tq(X Y:Nat):uh X Y 0=0:=by simp[uh,Nat.mod_one]
theorem yx(X Y i:Nat):ug X Y i=uh X Y i+X/ae^i%ae+Y/ae^i%ae:=rfl
def Ej(X Y i:Nat):ug X Y i<8589934592:=by
 have:=vI X Y i;have h1:=bf (X/ae^i);have h2:=bf (Y/ae^i);rw[yx];omega
theorem CU(X Y i:Nat):ug X Y i/2^32=uh X Y (i+1):=by
 show _/ae=_;unfold ug uh;rw[Nat.pow_succ,Nat.mod_mul,Nat.mod_mul,<-Nat.div_div_eq_div_mul]
 congr 1
 have e:X%ae^i+ae^i*(X/ae^i%ae)+(Y%ae^i+ae^i*(Y/ae^i%ae))=(X%ae^i+Y%ae^i)+ae^i*(X/ae^i%ae+Y/ae^i%ae):=(by rw[Nat.mul_add];omega);rw[e,Nat.add_mul_div_left _ _ (cu i)];omega
theorem QI(X Y i:Nat):ug X Y i%4294967296=(X+Y)/ae^i%ae:=by
 show _%ae=_;have e:X+Y=(X%ae^i+Y%ae^i)+ae^i*(X/ae^i+Y/ae^i):=by
  have h1:=Nat.mod_add_div X (ae^i);have h2:=Nat.mod_add_div Y (ae^i);rw[Nat.mul_add];omega
 conv=>rhs;rw[e]
 rw[Nat.add_mul_div_left _ _ (cu i)];unfold ug
 generalize(X%ae^i+Y%ae^i)/ae^i=c
 generalize X/ae^i=p
 generalize Y/ae^i=q
 rw[Nat.add_assoc,Nat.add_mod,<-Nat.add_mod p q,<-Nat.add_mod]
theorem MK(X Y i j:Nat):qZ X Y (i+1) j=if j=i then ug X Y i%4294967296 else qZ X Y i j:=by
 rw[QI];unfold qZ
 by_cases e:j=i
 ·subst e;rw[if_pos (by omega),if_pos rfl]
 ·rw[if_neg e]
  by_cases c:j<i
  ·rw[if_pos c,if_pos (by omega)]
  ·rw[if_neg c,if_neg (by omega)]
theorem Ib(X Y i:Nat):qZ X Y i i=X/ae^i%ae:=by unfold qZ;rw[if_neg (by omega)]
theorem nY{Y i:Nat}(h:(ag ae Y).length<=i):Y/ae^i%ae=0:=by
 rw[Nat.div_eq_of_lt (Nat.lt_of_lt_of_le (dO dG Y) (Nat.pow_le_pow_right (by decide) h))];rfl
def AX(X Y:Nat):NV .u32 (ag ae X)++(NV .u32 (List.replicate ((ag ae X).length+1) 0)).drop (ag ae X).length=NV .u32 (row ((ag ae X).length+1) (qZ X Y 0)):=by
 rw[Vb,LK]
 congr 1
 have e:row ((ag ae X).length+1) (qZ X Y 0)=row (ag ae X).length (fun j=>X/ae^j%ae)++[0]:=by
  unfold row;rw[List.range_succ,List.map_append]
  congr 1
  simp only[List.map_cons,List.map_nil,qZ];rw[if_neg (by omega),nY (Nat.le_refl _)]
 rw[e,<-zC dG X]
 congr 1
 simp
theorem Em{X Y:Nat}(h:(ag ae Y).length<=(ag ae X).length):val ae (row ((ag ae X).length+1) (qZ X Y ((ag ae X).length+1)))=X+Y:=by
 rw[bJ (g:=fun j=>(X+Y)/ae^j%ae) (fun j hj=>by unfold qZ;rw[if_pos hj]),oU ae (by decide),Nat.mod_eq_of_lt]
 have h1:=dO dG X;have h2:=Nat.lt_of_lt_of_le (dO dG Y) (Nat.pow_le_pow_right (by decide) h);rw[Nat.pow_succ];have:ae^(ag ae X).length*2<=ae^(ag ae X).length*ae:=Nat.mul_le_mul_left _ (by decide);omega
def Ic(X Y i j:Nat):qZ X Y i j<ae:=by unfold qZ;split<;>exact bf _
def jL{n k:Nat}(h:nb n<=k):(ag ae n).length<=(k+3)/4:=by rw[Eb];omega
def jM(m n i:Nat):Nat:=if m%ae^i<n%ae^i then 1 else 0
def CV(m n i j:Nat):Nat:=if j<i then(m-n)/ae^j%ae else m/ae^j%ae
theorem FM(m n:Nat):jM m n 0=0:=by simp[jM,Nat.mod_one]
def yz(m n i:Nat):jM m n i<=1:=by unfold jM;split<;>omega
def VK{m n i:Nat}(h:n<=m):(m-n)/ae^i+n/ae^i+jM m n i=m/ae^i:=by
 have h1:=Nat.mod_add_div m (ae^i);have h2:=Nat.mod_add_div n (ae^i);have h3:=Nat.mod_lt m (cu i);have h4:=Nat.mod_lt n (cu i);have hp:=cu i
 generalize hP:ae^i=P at*
 generalize m/P=M at*
 generalize n/P=N at*
 unfold jM;rw[hP]
 split
 ·rename_i hlt
  have hMN:N+1<=M:=by
   by_cases c:M<=N
   ·have:=Nat.mul_le_mul_left P c;omega
   ·omega
  obtain⟨k,rfl⟩:∃k,M=N+1+k:=⟨M-(N+1),by omega⟩;have e:m-n=(m%P+P-n%P)+P*k:=by
   rw[Nat.mul_add,Nat.mul_add] at h1;omega
  rw[e,Nat.add_mul_div_left _ _ hp,Nat.div_eq_of_lt (by omega)];omega
 ·rename_i hge
  have hMN:N<=M:=by
   by_cases c:M<N
   ·have:=Nat.mul_le_mul_left P c;rw[Nat.mul_succ] at this;omega
   ·omega
  obtain⟨k,rfl⟩:∃k,M=N+k:=⟨M-N,by omega⟩;have e:m-n=(m%P-n%P)+P*k:=by
   rw[Nat.mul_add] at h1;omega
  rw[e,Nat.add_mul_div_left _ _ hp,Nat.div_eq_of_lt (by omega)];omega
theorem ML(m n i:Nat):jM m n (i+1)=if m/ae^i%ae<n/ae^i%ae+jM m n i then 1 else 0:=by
 unfold jM;rw[Nat.pow_succ,Nat.mod_mul,Nat.mod_mul];have h3:=Nat.mod_lt m (cu i);have h4:=Nat.mod_lt n (cu i)
 generalize m/ae^i%ae=x
 generalize n/ae^i%ae=y
 generalize hP:ae^i=P at*
 have key:(m%P+P*x<n%P+P*y)↔x<y+(if m%P<n%P then 1 else 0):=by
  rcases Nat.lt_trichotomy x y with c|c|c
  ·have:=Nat.mul_le_mul_left P c;rw[Nat.mul_succ] at this
   constructor<;>intro _<;>omega
  ·subst c;split<;>constructor<;>intro _<;>omega
  ·have:=Nat.mul_le_mul_left P c;rw[Nat.mul_succ] at this
   split<;>constructor<;>intro _<;>omega
 simp only[key]
def OM{m n i:Nat}(h:n<=m)(hd:m/ae^i%ae<n/ae^i%ae+jM m n i):m/ae^i%ae+4294967296=(m-n)/ae^i%ae+n/ae^i%ae+jM m n i∧jM m n (i+1)=1:=by
 refine⟨?_,by rw[ML,if_pos hd]⟩;have h1:=VK (i:=i) h;have h2:=yz m n i;unfold ae at*;omega
def OO{m n i:Nat}(h:n<=m)(hd:¬m/ae^i%ae<n/ae^i%ae+jM m n i):m/ae^i%ae=(m-n)/ae^i%ae+n/ae^i%ae+jM m n i∧jM m n (i+1)=0:=by
 refine⟨?_,by rw[ML,if_neg hd]⟩;have h1:=VK (i:=i) h;have h2:=yz m n i;unfold ae at*;omega
theorem X7(m n i j:Nat):CV m n (i+1) j=if j=i then(m-n)/ae^i%ae else CV m n i j:=by
 unfold CV
 by_cases e:j=i
 ·subst e;rw[if_pos (by omega),if_pos rfl]
 ·rw[if_neg e]
  by_cases c:j<i
  ·rw[if_pos c,if_pos (by omega)]
  ·rw[if_neg c,if_neg (by omega)]
theorem qd2(m n i:Nat):CV m n i i=m/ae^i%ae:=by unfold CV;rw[if_neg (by omega)]
def X8(m n:Nat):NV .u32 (ag ae m)++(NV .u32 (List.replicate (ag ae m).length 0)).drop (ag ae m).length=NV .u32 (row (ag ae m).length (CV m n 0)):=by
 rw[Vb,LK]
 congr 1
 rw[bJ (g:=fun j=>m/ae^j%ae) (fun j _=>by unfold CV;rw[if_neg (by omega)]),<-zC dG m];simp
theorem qaj{m n:Nat}(h:n<=m):val ae (row (ag ae m).length (CV m n (ag ae m).length))=m-n:=by
 rw[bJ (g:=fun j=>(m-n)/ae^j%ae) (fun j hj=>by unfold CV;rw[if_pos hj]),oU ae (by decide),Nat.mod_eq_of_lt]
 have h1:=dO dG m;omega
def qd3(m n i j:Nat):CV m n i j<ae:=by unfold CV;split<;>exact bf _
def rP(m n i:Nat):Nat:=m%ae^i*n
def zL(m n i k:Nat):Nat:=(rP m n i/ae^i%ae^k+m/ae^i%ae*(n%ae^k))/ae^k
def FN(m n i k:Nat):Nat:=zL m n i k+rP m n i/ae^(i+k)%ae+m/ae^i%ae*(n/ae^k%ae)
def GX(m n i k j:Nat):Nat:=if j<i+k then rP m n (i+1)/ae^j%ae else rP m n i/ae^j%ae
def zM(m n i j:Nat):Nat:=rP m n i/ae^j%ae
theorem MM(m n i:Nat):rP m n (i+1)=rP m n i+ae^i*(m/ae^i%ae*n):=by
 unfold rP;rw[Nat.pow_succ,Nat.mod_mul,Nat.add_mul,Nat.mul_assoc]
theorem MN(m n i:Nat):zL m n i 0=0:=by simp[zL,Nat.mod_one]
def VL(m n i k:Nat):zL m n i k<ae:=by
 unfold zL;rw[Nat.div_lt_iff_lt_mul (cu k)];have h1:=Nat.mod_lt (rP m n i/ae^i) (cu k);have h2:=Nat.mod_lt n (cu k);have h3:m/ae^i%ae+1<=ae:=Nat.mod_lt _ (by decide);have h4:(m/ae^i%ae)*(n%ae^k)<=(m/ae^i%ae)*(ae^k):=Nat.mul_le_mul_left _ (by omega);have h5:(m/ae^i%ae+1)*ae^k<=ae*ae^k:=Nat.mul_le_mul_right _ h3;rw[Nat.add_mul] at h5;omega
def VM(p q:Nat):p%ae*(q%ae)<=18446744065119617025:=by
 have h1:p%ae<=4294967295:=(by have:=bf p;omega);have h2:q%ae<=4294967295:=(by have:=bf q;omega);exact Nat.mul_le_mul h1 h2
def OQ(m n i k:Nat):FN m n i k<18446744073709551616:=by
 have h1:=VL m n i k;have h2:=bf (rP m n i/ae^(i+k));have h3:=VM (m/ae^i) (n/ae^k);unfold FN ae at*;omega
theorem zN(V i k:Nat):V/ae^(i+k)=V/ae^i/ae^k:=by rw[Nat.pow_add,Nat.div_div_eq_div_mul]
theorem Uf(m n i k:Nat):FN m n i k/2^32=zL m n i (k+1):=by
 show _/ae=_;unfold FN zL;rw[zN,Nat.pow_succ,Nat.mod_mul,Nat.mod_mul,<-Nat.div_div_eq_div_mul]
 congr 1
 generalize m/ae^i%ae=dd
 generalize rP m n i/ae^i=A
 have e:A%ae^k+ae^k*(A/ae^k%ae)+dd*(n%ae^k+ae^k*(n/ae^k%ae))=(A%ae^k+dd*(n%ae^k))+ae^k*(A/ae^k%ae+dd*(n/ae^k%ae)):=(by grind);rw[e,Nat.add_mul_div_left _ _ (cu k)];omega
theorem QJ(m n i k:Nat):FN m n i k%4294967296=rP m n (i+1)/ae^(i+k)%ae:=by
 show _%ae=_;unfold FN zL;rw[zN,zN,MM,Nat.add_mul_div_left _ _ (cu i)]
 generalize m/ae^i%ae=dd
 generalize rP m n i/ae^i=A
 have e:A+dd*n=(A%ae^k+dd*(n%ae^k))+ae^k*(A/ae^k+dd*(n/ae^k)):=by
  have h1:=Nat.mod_add_div A (ae^k);have h2:=Nat.mod_add_div n (ae^k)
  conv=>lhs;rw[<-h1,<-h2]
  grind
 conv=>rhs;rw[e]
 rw[Nat.add_mul_div_left _ _ (cu k)]
 generalize(A%ae^k+dd*(n%ae^k))/ae^k=c
 generalize A/ae^k=p
 generalize n/ae^k=q
 have e2:∀x y z w:Nat,(x+y%ae+z*(w%ae))%ae=(x+(y+z*w))%ae:=by
  intro x y z w;have h1:=Nat.mod_add_div y ae;have h2:=Nat.mod_add_div w ae;have:x+(y+z*w)=(x+y%ae+z*(w%ae))+ae*(y/ae+z*(w/ae)):=by
   conv=>lhs;rw[<-h1,<-h2]
   grind
  rw[this,Nat.add_mul_mod_self_left]
 exact e2 c p dd q
theorem qd4(m n i k:Nat):GX m n i k (i+k)=rP m n i/ae^(i+k)%ae:=by unfold GX;rw[if_neg (by omega)]
theorem X9(m n i k j:Nat):GX m n i (k+1) j=if j=i+k then FN m n i k%4294967296 else GX m n i k j:=by
 rw[QJ];unfold GX
 by_cases e:j=i+k
 ·subst e;rw[if_pos (by omega),if_pos rfl]
 ·rw[if_neg e]
  by_cases c:j<i+k
  ·rw[if_pos c,if_pos (by omega)]
  ·rw[if_neg c,if_neg (by omega)]
theorem MO(m n i j:Nat):GX m n i 0 j=zM m n i j:=by
 unfold GX zM
 split
 ·rename_i h
  rw[MM];have e0:ae^i=ae^j*(ae*ae^(i-j-1)):=by
   rw[<-Nat.mul_assoc,<-Nat.pow_succ,<-Nat.pow_add,show j+1+(i-j-1)=i by omega]
  have e:ae^i*(m/ae^i%ae*n)=ae^j*(ae*(ae^(i-j-1)*(m/ae^i%ae*n))):=by
   generalize m/ae^i%ae*n=r
   rw[e0,Nat.mul_assoc,Nat.mul_assoc]
  rw[e,Nat.add_mul_div_left _ _ (cu j),Nat.add_mul_mod_self_left]
 ·rfl
theorem Ie(m n i:Nat):rP m n i<ae^(i+(ag ae n).length):=by
 unfold rP;rw[Nat.pow_add];have h1:=Nat.mod_lt m (cu i);have h2:=dO dG n
 calc m%ae^i*n<=ae^i*n:=Nat.mul_le_mul_right _ (by omega)
  _<ae^i*ae^(ag ae n).length:=(Nat.mul_lt_mul_left (cu i)).2 h2
theorem qak(m n i:Nat):zL m n i (ag ae n).length%4294967296=rP m n (i+1)/ae^(i+(ag ae n).length)%ae:=by
 have h:=QJ m n i (ag ae n).length;unfold FN at h;rw[nY (Nat.le_refl _),Nat.div_eq_of_lt (Ie m n i)] at h
 simpa using h
theorem MP(m n i j:Nat):zM m n (i+1) j=if j=i+(ag ae n).length then zL m n i (ag ae n).length%4294967296 else GX m n i (ag ae n).length j:=by
 rw[qak];unfold GX zM
 by_cases e:j=i+(ag ae n).length
 ·subst e;rw[if_pos rfl]
 ·rw[if_neg e]
  by_cases c:j<i+(ag ae n).length
  ·rw[if_pos c]
  ·rw[if_neg c];have h1:ae^(i+(ag ae n).length)<=ae^j:=Nat.pow_le_pow_right (by decide) (by omega);have h2:ae^(i+1+(ag ae n).length)<=ae^j:=Nat.pow_le_pow_right (by decide) (by omega);rw[Nat.div_eq_of_lt (Nat.lt_of_lt_of_le (Ie m n i) h1),Nat.div_eq_of_lt (Nat.lt_of_lt_of_le (Ie m n (i+1)) h2)]
theorem MQ(m n j:Nat):zM m n 0 j=0:=by simp[zM,rP,Nat.mod_one]
theorem QK(m n:Nat):val ae (row ((ag ae m).length+(ag ae n).length+1) (zM m n (ag ae m).length))=m*n:=by
 have e:rP m n (ag ae m).length=m*n:=(by unfold rP;rw[Nat.mod_eq_of_lt (dO dG m)]);have h:=Ie m n (ag ae m).length;rw[bJ (g:=fun j=>m*n/ae^j%ae) (fun j hj=>by unfold zM;rw[e]),oU ae (by decide),Nat.mod_eq_of_lt];rw[e] at h;exact Nat.lt_of_lt_of_le h (Nat.pow_le_pow_right (by decide) (by omega))
def VN(m n i j:Nat):zM m n i j<ae:=bf _
def Ya{m n:Nat}(h:((m*n/18446744073709551616:Nat):Int)=0):m*n%18446744073709551616=m*n:=by omega
def qal(m n i k:Nat):rP m n i/ae^(i+k)%ae+m/ae^i%ae*(n/ae^k%ae)<18446744073709551616:=by
 have:=OQ m n i k;unfold FN at this;omega
def Yb(m n i k:Nat):((zL m n i k:Nat):Int)+((rP m n i/ae^(i+k)%ae+m/ae^i%ae*(n/ae^k%ae):Nat):Int)=((FN m n i k:Nat):Int):=by
 unfold FN;rw[<-Int.natCast_add,Nat.add_assoc]
def OT(m y p j:Nat):Nat:=if j<p then m/ae^j%ae else m/y/ae^j%ae
theorem qd5(m y q:Nat):OT m y (q+1) q=m/ae^q%ae:=by unfold OT;rw[if_pos (by omega)]
def qam(m q:Nat):m/ae^q=m/ae^(q+1)*ae+m/ae^q%ae:=by
 rw[Nat.pow_succ,<-Nat.div_div_eq_div_mul];have:=Nat.div_add_mod (m/ae^q) ae;rw[Nat.mul_comm] at this;omega
def GY(m y q:Nat):Nat:=m/ae^(q+1)%y*ae+m/ae^q%ae
def VO(m y q:Nat)(hy:0<y):m/ae^q=y*(m/ae^(q+1)/y*ae)+GY m y q:=by
 have h1:=qam m q;have h2:=Nat.div_add_mod (m/ae^(q+1)) y;unfold GY
 conv=>lhs;rw[h1,<-h2]
 rw[Nat.add_mul,Nat.mul_assoc,Nat.add_assoc]
def OU(m y q:Nat)(hy:0<y):GY m y q<y*ae:=by
 unfold GY;have h1:m/ae^(q+1)%y+1<=y:=Nat.mod_lt _ hy;have h2:m/ae^q%ae<ae:=Nat.mod_lt _ (by decide);have h3:=Nat.mul_le_mul_right ae h1;rw[Nat.add_mul] at h3;omega
def Yc(m y q:Nat)(hy:0<y)(hy2:y<4294967296):GY m y q<18446744073709551616:=by
 have h1:=OU m y q hy;have h2:y*ae<=4294967295*ae:=Nat.mul_le_mul_right _ (by omega);have e:(ae:Nat)=4294967296:=rfl;rw[e] at h1 h2;omega
theorem QL(m y q:Nat)(hy:0<y):GY m y q/y=m/y/ae^q%ae:=by
 have h1:=VO m y q hy;have h2:GY m y q/y<ae:=(by rw[Nat.div_lt_iff_lt_mul hy,Nat.mul_comm];exact OU m y q hy);have e:m/y/ae^q=m/ae^q/y:=(by rw[Nat.div_div_eq_div_mul,Nat.div_div_eq_div_mul,Nat.mul_comm]);rw[e,h1,Nat.mul_add_div hy,Nat.mul_comm _ ae,Nat.mul_add_mod,Nat.mod_eq_of_lt h2]
theorem QM(m y q:Nat)(hy:0<y):GY m y q%y=m/ae^q%y:=by
 have h1:=VO m y q hy
 conv=>rhs;rw[h1]
 rw[Nat.mul_add_mod]
theorem Yd(m y q j:Nat)(hy:0<y):OT m y q j=if j=q then GY m y q/y%4294967296 else OT m y (q+1) j:=by
 rw[QL m y q hy];show _=if j=q then _%ae else _
 rw[Nat.mod_mod];unfold OT
 by_cases e:j=q
 ·subst e;rw[if_neg (by omega),if_pos rfl]
 ·rw[if_neg e]
  by_cases c:j<q
  ·rw[if_pos c,if_pos (by omega)]
  ·rw[if_neg c,if_neg (by omega)]
def Ug(m y:Nat):ag ae m=row (ag ae m).length (OT m y (ag ae m).length):=by
 conv=>lhs;rw[zC dG m]
 exact bJ fun j hj=>by unfold OT;rw[if_pos hj]
theorem Uh(m y:Nat):m/ae^(ag ae m).length%y=0:=by
 rw[Nat.div_eq_of_lt (dO dG m)];simp
def qd6(m y j:Nat):Nat:=m/y/ae^j%ae
theorem qan(m y:Nat):val ae (row (ag ae m).length (qd6 m y))=m/y:=by
 unfold qd6;rw[oU ae (by decide),Nat.mod_eq_of_lt];exact Nat.lt_of_le_of_lt (Nat.div_le_self _ _) (dO dG m)
def OV(m s i:Nat):Nat:=m%ae^i*2^s
def MR(m s i j:Nat):Nat:=OV m s i/ae^j%ae
def GZ(m s i:Nat):Nat:=m/ae^i%ae*2^s
theorem Jp(m s i:Nat):OV m s (i+1)=OV m s i+ae^i*GZ m s i:=by
 unfold OV GZ;rw[Nat.pow_succ,Nat.mod_mul,Nat.add_mul,Nat.mul_assoc]
def yA{s:Nat}(hs:s<32):2^s<=2147483648:=Nat.pow_le_pow_right (n:=2) (by omega) (show s<=31 by omega)
def qhw(m s i:Nat)(hs:s<32):GZ m s i<18446744073709551616:=by
 unfold GZ;have h1:=bf (m/ae^i);have h2:=yA hs;have:m/ae^i%ae*2^s<=4294967295*2147483648:=Nat.mul_le_mul (by omega) h2;omega
def OW(m s i:Nat):OV m s i/ae^i<2^s:=by
 rw[Nat.div_lt_iff_lt_mul (cu i)];unfold OV;rw[Nat.mul_comm];exact(Nat.mul_lt_mul_left (Nat.pow_pos (by omega))).2 (Nat.mod_lt _ (cu i))
theorem vJ{s:Nat}(hs:s<32):ae=2^s*2^(32-s):=by rw[<-Nat.pow_add,show s+(32-s)=32 by omega];rfl
def VP(m s i:Nat)(hs:s<32):GZ m s i%4294967296=2^s*(m/ae^i%ae%2^(32-s)):=by
 show _%ae=_;unfold GZ
 conv=>lhs;rw[vJ hs]
 rw[Nat.mul_comm _ (2^s),Nat.mul_mod_mul_left]
 congr 1
 rw[<-vJ hs]
theorem qao(m s i:Nat)(hs:s<32):MR m s i i=OV m s i/ae^i:=by
 unfold MR;have h1:=OW m s i;have h2:=yA hs;exact Nat.mod_eq_of_lt (by unfold ae at*;omega)
def qap(m s i:Nat)(hs:s<32):OV m s i/ae^i+GZ m s i%4294967296<4294967296∧MR m s (i+1) i=OV m s i/ae^i+GZ m s i%4294967296:=by
 have h1:=OW m s i;have e:=VP m s i hs;have h3:m/ae^i%ae%2^(32-s)+1<=2^(32-s):=Nat.mod_lt _ (Nat.pow_pos (by omega));have h4:=Nat.mul_le_mul_left (2^s) h3;have hB:=vJ hs;rw[<-hB,Nat.mul_add] at h4;have hlt:OV m s i/ae^i+GZ m s i%4294967296<4294967296:=(by rw[e];unfold ae at*;omega);refine⟨hlt,?_⟩;unfold MR;rw[Jp,Nat.add_mul_div_left _ _ (cu i)];have:OV m s i/ae^i+GZ m s i=(OV m s i/ae^i+GZ m s i%ae)+ae*(GZ m s i/ae):=by
  have:=Nat.mod_add_div (GZ m s i) ae;omega
 rw[this,Nat.add_mul_mod_self_left];exact Nat.mod_eq_of_lt hlt
theorem qd7(m s i:Nat)(hs:s<32):MR m s (i+1) (i+1)=GZ m s i/2^32%4294967296:=by
 have h0:=(qap m s i hs).1;unfold MR;rw[Jp,Nat.pow_succ,<-Nat.div_div_eq_div_mul,Nat.add_mul_div_left _ _ (cu i)];have:OV m s i/ae^i+GZ m s i=(OV m s i/ae^i+GZ m s i%ae)+ae*(GZ m s i/ae):=by
  have:=Nat.mod_add_div (GZ m s i) ae;omega
 have h0':OV m s i/ae^i+GZ m s i%ae<ae:=h0;rw[this,Nat.add_mul_div_left _ _ (by decide),Nat.div_eq_of_lt h0',Nat.zero_add]
 rfl
def qhx(m s i:Nat):OV m s i<ae^i*2^s:=(Nat.mul_lt_mul_right (Nat.pow_pos (by omega))).2 (Nat.mod_lt _ (cu i))
def shM(m s i j:Nat):Nat:=if j=i then MR m s (i+1) i else MR m s i j
theorem qaq(m s i j:Nat)(hs:s<32):MR m s (i+1) j=if j=i+1 then GZ m s i/2^32%4294967296 else shM m s i j:=by
 by_cases e:j=i+1
 ·subst e;rw[if_pos rfl,qd7 m s i hs]
 ·rw[if_neg e];unfold shM
  by_cases e2:j=i
  ·subst e2;rw[if_pos rfl]
  ·rw[if_neg e2];unfold MR
   by_cases c:j<i
   ·rw[Jp];have e0:ae^i=ae^j*(ae*ae^(i-j-1)):=by
     rw[<-Nat.mul_assoc,<-Nat.pow_succ,<-Nat.pow_add,show j+1+(i-j-1)=i by omega]
    rw[e0,Nat.mul_assoc,Nat.add_mul_div_left _ _ (cu j),Nat.mul_assoc,Nat.add_mul_mod_self_left]
   ·have h2:=yA hs;have h3:ae^(i+2)<=ae^j:=Nat.pow_le_pow_right (by decide) (by omega);have key:∀k,k<=i+1->OV m s k/ae^j=0:=fun k hk=>Nat.div_eq_of_lt (by
 have h4:=qhx m s k;have h5:ae^k*2^s<=ae^(i+1)*ae:=Nat.mul_le_mul (Nat.pow_le_pow_right (by decide) hk) (by unfold ae;omega);rw[<-Nat.pow_succ] at h5;have h6:ae^(i+1).succ=ae^(i+2):=rfl;omega)
    rw[key (i+1) (by omega),key i (by omega)]
theorem qar(m s j:Nat):MR m s 0 j=0:=by simp[MR,OV,Nat.mod_one]
def G5(N j:Nat):Nat:=N/ae^j%ae
theorem qd8(m s j:Nat):MR m s (ag ae m).length j=G5 (m*2^s) j:=by
 unfold MR G5 OV;rw[Nat.mod_eq_of_lt (dO dG m)]
def qjG(m s i:Nat)(hs:s<32):IntKind.u32.wrap ((BitVec.ofInt IntKind.u32.bits ((MR m s i i:Nat):Int)|||BitVec.ofInt IntKind.u32.bits ((GZ m s i%4294967296:Nat):Int)).toNat)=((MR m s (i+1) i:Nat):Int):=by
 obtain⟨h1,h2⟩:=qap m s i hs;rw[<-qao m s i hs] at h1 h2;have e:=VP m s i hs;rw[e] at h1 h2 ⊢;exact Vx s (by rw[qao m s i hs];exact OW m s i) h2.symm (by rw[h2];exact h1) rfl rfl
end Go.Via
