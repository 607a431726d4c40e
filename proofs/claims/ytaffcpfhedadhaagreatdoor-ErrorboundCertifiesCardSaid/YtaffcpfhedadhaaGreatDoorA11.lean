/-
  Part 11 (chapter 32): lemmas, walks. Each theorem states its own conditions.
-/
import Derived.Shelf.Strings.Builder1
import Derived.Shelf.Strings.Builder2
import Derived.Shelf.Small.Utf8
import Derived.Shelf.Small.Bits
import Derived.Shelf.Small.Strs
import Derived.Shelf.Small.Wraps
import Derived.Shelf.Strings.BuilderF
import Derived.Shelf.Strconv.Itoa0
import Derived.Shelf.Strings.Search1
import Derived.Shelf.Strings.Prefix
import Derived.Shelf.Strings.Runes
import Derived.Shelf.Strings.AsciiSet
import Derived.Shelf.Bits.Mul64
import Derived.Shelf.Strings.Repeat
import Derived.Shelf.Unicode.DecodeSlow
import Derived.Test.YtaffcpfhedadhaaGreatDoorProg
import Derived.Laws.Externs
import Derived.Lib.ItoaNum
import Derived.Lib.AppendStr
import Derived.Lib.UnsafeStr
import Derived.Lib.Builder
import Derived.Laws.Concat
import Derived.Laws.Strings2
import Derived.Lib.OthersKept
import Derived.Test.YtaffcpfhedadhaaGreatDoorA06
import Derived.Test.YtaffcpfhedadhaaGreatDoorA07
import Derived.Test.YtaffcpfhedadhaaGreatDoorA08
import Derived.Test.YtaffcpfhedadhaaGreatDoorA09
import Derived.Test.YtaffcpfhedadhaaGreatDoorA10
set_option linter.all false
set_option maxRecDepth 20000
set_option maxHeartbeats 20000000
namespace Go.Proofs
open Go.Shelf
def Tryz.lays126_ren:Go.Shelf.Ren:=⟨fun|126=>230|n=>n,fun|5=>5|3=>3|9=>9|n=>n,fun|n=>n⟩
def Tryz.lays126:Go.Proofs.Lays.n126 Tryz.prog Tryz.lays126_ren:={
 mixed:=by kernel_rfl
 f126:=Tryz.func230.trans (congrArg some (by kernel_rfl))
 t3:=Tryz.underlying3
 a3:=Tryz.isAgg3
 z3:=Tryz.sizeOf3
 v3:=Tryz.zeroValue3
 t5:=Tryz.underlying5
 a5:=Tryz.isAgg5
 z5:=Tryz.sizeOf5
 v5:=Tryz.zeroValue5
 t9:=Tryz.underlying9
 a9:=Tryz.isAgg9
 z9:=Tryz.sizeOf9
 v9:=Tryz.zeroValue9}
def Tryz.bits_Len8(x:Int)(w:World)(h0:0<=x)(h1:x<=255):
 Calls Tryz.prog 230 #[.int .u8 x] w fun e w'=>e= .returned (.int .i64 (Lib.bitLen x.toNat))∧w'=w:=Any.bits_Len8 Tryz.lays126 x w h0 h1
def Tryz.lays133_ren:Go.Shelf.Ren:=⟨fun|133=>228|128=>247|n=>n,fun|51=>272|3=>3|4=>4|46=>236|5=>5|9=>9|n=>n,fun|n=>n⟩
def Tryz.lays133:Go.Proofs.Lays.n133 Tryz.prog Tryz.lays133_ren:={
 mixed:=by kernel_rfl
 f128:=Tryz.func247.trans (congrArg some (by kernel_rfl))
 f133:=Tryz.func228.trans (congrArg some (by kernel_rfl))
 t3:=Tryz.underlying3
 a3:=Tryz.isAgg3
 z3:=Tryz.sizeOf3
 v3:=Tryz.zeroValue3
 t4:=Tryz.underlying4
 a4:=Tryz.isAgg4
 z4:=Tryz.sizeOf4
 v4:=Tryz.zeroValue4
 t5:=Tryz.underlying5
 a5:=Tryz.isAgg5
 z5:=Tryz.sizeOf5
 v5:=Tryz.zeroValue5
 t9:=Tryz.underlying9
 a9:=Tryz.isAgg9
 z9:=Tryz.sizeOf9
 v9:=Tryz.zeroValue9
 t46:=Tryz.underlying236
 a46:=Tryz.isAgg236
 z46:=Tryz.sizeOf236
 v46:=Tryz.zeroValue236
 t51:=Tryz.underlying272
 a51:=Tryz.isAgg272
 z51:=Tryz.sizeOf272
 v51:=Tryz.zeroValue272}
def Tryz.bits_LeadingZeros32(x:Int)(w:World)(h0:0<=x)(h1:x<=4294967295):
 Calls Tryz.prog 228 #[.int .u32 x] w fun e w'=>e= .returned (.int .i64 (32-(Lib.bitLen x.toNat:Int)))∧w'=w:=Any.bits_LeadingZeros32 Tryz.lays133 x w h0 h1
def Tryz.lays106_ren:Go.Shelf.Ren:=⟨fun|106=>225|213=>248|265=>271|n=>n,fun|9=>9|3=>3|n=>n,fun|n=>n⟩
def Tryz.lays106:Go.Proofs.Lays.n106 Tryz.prog Tryz.lays106_ren:={
 mixed:=by kernel_rfl
 f106:=Tryz.func225.trans (congrArg some (by kernel_rfl))
 f213:=Tryz.func248.trans (congrArg some (by kernel_rfl))
 f265:=Tryz.func271.trans (congrArg some (by kernel_rfl))
 t3:=Tryz.underlying3
 a3:=Tryz.isAgg3
 z3:=Tryz.sizeOf3
 v3:=Tryz.zeroValue3
 t9:=Tryz.underlying9
 a9:=Tryz.isAgg9
 z9:=Tryz.sizeOf9
 v9:=Tryz.zeroValue9}
open Go.RowKit in
def Tryz.strings_Compare(a b:ByteArray)(w:World):
 Calls Tryz.prog 225 #[.string a,.string b] w fun e w'=>e= .returned (.int .i64 (Lib.compareBytes a.data.toList b.data.toList))∧w'=w:=Any.strings_Compare Tryz.lays106 a b w
def Tryz.lays129_ren:Go.Shelf.Ren:=⟨fun|129=>226|n=>n,fun|53=>189|3=>3|4=>4|46=>236|5=>5|9=>9|n=>n,fun|n=>n⟩
def Tryz.lays129:Go.Proofs.Lays.n129 Tryz.prog Tryz.lays129_ren:={
 mixed:=by kernel_rfl
 f129:=Tryz.func226.trans (congrArg some (by kernel_rfl))
 t3:=Tryz.underlying3
 a3:=Tryz.isAgg3
 z3:=Tryz.sizeOf3
 v3:=Tryz.zeroValue3
 t4:=Tryz.underlying4
 a4:=Tryz.isAgg4
 z4:=Tryz.sizeOf4
 v4:=Tryz.zeroValue4
 t5:=Tryz.underlying5
 a5:=Tryz.isAgg5
 z5:=Tryz.sizeOf5
 v5:=Tryz.zeroValue5
 t9:=Tryz.underlying9
 a9:=Tryz.isAgg9
 z9:=Tryz.sizeOf9
 v9:=Tryz.zeroValue9
 t46:=Tryz.underlying236
 a46:=Tryz.isAgg236
 z46:=Tryz.sizeOf236
 v46:=Tryz.zeroValue236
 t53:=Tryz.underlying189
 a53:=Tryz.isAgg189
 z53:=Tryz.sizeOf189
 v53:=Tryz.zeroValue189}
def Tryz.bits_Len64(x:Int)(w:World)(h0:0<=x)(h1:x<=18446744073709551615):
 Calls Tryz.prog 226 #[.int .u64 x] w fun e w'=>e= .returned (.int .i64 (Lib.bitLen x.toNat))∧w'=w:=Any.bits_Len64 Tryz.lays129 x w h0 h1
def Tryz.lays264_ren:Go.Shelf.Ren:=⟨fun|264=>202|n=>n,fun|53=>189|46=>236|n=>n,fun|n=>n⟩
def Tryz.lays264:Go.Proofs.Lays.n264 Tryz.prog Tryz.lays264_ren:={
 mixed:=by kernel_rfl
 f264:=Tryz.func202.trans (congrArg some (by kernel_rfl))
 t46:=Tryz.underlying236
 a46:=Tryz.isAgg236
 z46:=Tryz.sizeOf236
 v46:=Tryz.zeroValue236
 t53:=Tryz.underlying189
 a53:=Tryz.isAgg189
 z53:=Tryz.sizeOf189
 v53:=Tryz.zeroValue189}
open Go.RowKit Go.Lib in
def Tryz.bits_Mul64(x y:Nat)(hx:x<18446744073709551616)(hy:y<18446744073709551616)(w:World):
 Calls Tryz.prog 202 #[.int .u64 x,.int .u64 y] w fun e w'=>e= .returned (.tuple #[.int .u64 ((x*y/18446744073709551616:Nat):Int),.int .u64 ((x*y%18446744073709551616:Nat):Int)])∧w'=w:=Any.bits_Mul64 Tryz.lays264 x y hx hy w
def Tryz.lays105_ren:Go.Shelf.Ren:=⟨fun|105=>231|212=>249|99=>250|165=>251|166=>252|170=>253|169=>254|263=>272|264=>202|206=>273|240=>274|241=>275|276=>285|277=>286|n=>n,fun|9=>9|3=>3|4=>4|20=>20|0=>0|46=>236|109=>303|5=>5|72=>308|76=>312|51=>272|146=>334|53=>189|148=>267|70=>306|37=>221|75=>311|127=>336|164=>346|80=>273|n=>n,fun|n=>n⟩
def Tryz.lays105:Go.Proofs.Lays.n105 Tryz.prog Tryz.lays105_ren:={
 mixed:=by kernel_rfl
 f99:=Tryz.func250.trans (congrArg some (by kernel_rfl))
 f105:=Tryz.func231.trans (congrArg some (by kernel_rfl))
 f165:=Tryz.func251.trans (congrArg some (by kernel_rfl))
 f166:=Tryz.func252.trans (congrArg some (by kernel_rfl))
 f169:=Tryz.func254.trans (congrArg some (by kernel_rfl))
 f170:=Tryz.func253.trans (congrArg some (by kernel_rfl))
 f206:=Tryz.func273.trans (congrArg some (by kernel_rfl))
 f212:=Tryz.func249.trans (congrArg some (by kernel_rfl))
 f240:=Tryz.func274.trans (congrArg some (by kernel_rfl))
 f241:=Tryz.func275.trans (congrArg some (by kernel_rfl))
 f263:=Tryz.func272.trans (congrArg some (by kernel_rfl))
 f264:=Tryz.func202.trans (congrArg some (by kernel_rfl))
 f276:=Tryz.func285.trans (congrArg some (by kernel_rfl))
 f277:=Tryz.func286.trans (congrArg some (by kernel_rfl))
 t0:=Tryz.underlying0
 a0:=Tryz.isAgg0
 z0:=Tryz.sizeOf0
 v0:=Tryz.zeroValue0
 t3:=Tryz.underlying3
 a3:=Tryz.isAgg3
 z3:=Tryz.sizeOf3
 v3:=Tryz.zeroValue3
 t4:=Tryz.underlying4
 a4:=Tryz.isAgg4
 z4:=Tryz.sizeOf4
 v4:=Tryz.zeroValue4
 t5:=Tryz.underlying5
 a5:=Tryz.isAgg5
 z5:=Tryz.sizeOf5
 v5:=Tryz.zeroValue5
 t9:=Tryz.underlying9
 a9:=Tryz.isAgg9
 z9:=Tryz.sizeOf9
 v9:=Tryz.zeroValue9
 t20:=Tryz.underlying20
 a20:=Tryz.isAgg20
 z20:=Tryz.sizeOf20
 v20:=Tryz.zeroValue20
 t37:=Tryz.underlying221
 a37:=Tryz.isAgg221
 z37:=Tryz.sizeOf221
 v37:=Tryz.zeroValue221
 t46:=Tryz.underlying236
 a46:=Tryz.isAgg236
 z46:=Tryz.sizeOf236
 v46:=Tryz.zeroValue236
 t51:=Tryz.underlying272
 a51:=Tryz.isAgg272
 z51:=Tryz.sizeOf272
 v51:=Tryz.zeroValue272
 t53:=Tryz.underlying189
 a53:=Tryz.isAgg189
 z53:=Tryz.sizeOf189
 v53:=Tryz.zeroValue189
 t70:=Tryz.underlying306
 a70:=Tryz.isAgg306
 z70:=Tryz.sizeOf306
 v70:=Tryz.zeroValue306
 t72:=Tryz.underlying308
 a72:=Tryz.isAgg308
 z72:=Tryz.sizeOf308
 v72:=Tryz.zeroValue308
 t75:=Tryz.underlying311
 a75:=Tryz.isAgg311
 z75:=Tryz.sizeOf311
 v75:=Tryz.zeroValue311
 t76:=Tryz.underlying312
 a76:=Tryz.isAgg312
 z76:=Tryz.sizeOf312
 v76:=Tryz.zeroValue312
 t109:=Tryz.underlying303
 a109:=Tryz.isAgg303
 z109:=Tryz.sizeOf303
 v109:=Tryz.zeroValue303
 t127:=Tryz.underlying336
 a127:=Tryz.isAgg336
 z127:=Tryz.sizeOf336
 v127:=Tryz.zeroValue336
 t146:=Tryz.underlying334
 a146:=Tryz.isAgg334
 z146:=Tryz.sizeOf334
 v146:=Tryz.zeroValue334
 t148:=Tryz.underlying267
 a148:=Tryz.isAgg267
 z148:=Tryz.sizeOf267
 v148:=Tryz.zeroValue267
 t164:=Tryz.underlying346
 a164:=Tryz.isAgg346
 z164:=Tryz.sizeOf346
 v164:=Tryz.zeroValue346}
def Tryz.Builder_Extra_105:Builder.Extra Tryz.prog Tryz.lays105_ren:={
 sizeBuilder:=by kernel_rfl
 liesBuilder:=by kernel_rfl
 t5:=Tryz.underlying5
 a5:=Tryz.isAgg5
 z5:=Tryz.sizeOf5
 v5:=Tryz.zeroValue5
 infoByte:=by kernel_rfl
 cellsByte:=by kernel_rfl
 sizeByte:=by kernel_rfl
 neB5:=by decide}
open Go.RowKit Go.Lib in
def Tryz.strings_Repeat(s:ByteArray)(c:Nat)(w:World)(hc:c<=9223372036854775807)(hlen:s.size*c<=140737488355328):
 Calls Tryz.prog 231 #[.string s,.int .i64 c] w fun e w'=>e= .returned (.string ⟨(Lib.repeatL s.data.toList c).toArray⟩)∧Below w.heap.size w w':=Any.strings_Repeat Tryz.lays105 Tryz.Builder_Extra_105 s c w hc hlen
end Go.Proofs
namespace Go.Via
variable[Mo]
open Go Go.RowKit
def zJ{P:Program}{f:Nat}{args:Array Value}{v:Value}(hp:iM P f=true)(h:∀w,Calls P f args w fun e w'=>e= .returned v∧w'=w):aH P f args v:=
 ⟨hp,fun w=>(h w).mono (by rintro e w' ⟨h1,rfl⟩;exact⟨h1,eG.refl _ _⟩)⟩
def wH{x:Nat}(h:x<2^64)(h0:x≠0):1<=Lib.bitLen x∧2^(Lib.bitLen x-1)<=x∧x<2^Lib.bitLen x:=Lib.bitLenAux_bounds 64 x h h0
theorem XU{x:Nat}(h:x<18446744073709551616)(h0:x≠0):(Lib.bitLen x+7)/8=nb x:=by
 obtain⟨h1,h2,h3⟩:=wH (by omega) h0
 generalize hb:Lib.bitLen x=b at*
 have e1:nb x<=(b+7)/8:=ng (by
 have:(256:Nat)^((b+7)/8)=2^(8*((b+7)/8)):=(by rw[Nat.pow_mul]);rw[this];exact Nat.lt_of_lt_of_le h3 (Nat.pow_le_pow_right (by omega) (by omega)))
 have e2:(b+7)/8<=nb x:=by
  have:(b-1)/8<nb x:=Ov (by omega) (by
 have:(256:Nat)^((b-1)/8)=2^(8*((b-1)/8)):=(by rw[Nat.pow_mul]);rw[this];exact Nat.le_trans (Nat.pow_le_pow_right (by omega) (by omega)) h2)
  omega
 omega
def FI:∀(a b:List Nat),a.length=b.length->(∀d∈a,d<256)->(∀d∈b,d<256)->
 Lib.compareBytes (a.reverse.map UInt8.ofNat) (b.reverse.map UInt8.ofNat)=if val 256 a<val 256 b then-1 else if val 256 b<val 256 a then 1 else 0:=by
 have key:∀(a b:List UInt8),a.length=b.length->Lib.compareBytes a b=if lW a<lW b then-1 else if lW b<lW a then 1 else 0:=by
  intro a
  induction a with
  |nil=>intro b h;cases b with
   |nil=>simp[Lib.compareBytes]
   |cons y b=>simp at h
  |cons x a ih=>
   intro b h;cases b with
   |nil=>simp at h
   |cons y b=>
    have hl:a.length=b.length:=(by simpa using h);have ea:lW (x::a)=lW a+256^a.length*x.toNat:=by
     unfold lW;rw[List.reverse_cons,List.map_append,qf];simp[val]
    have eb:lW (y::b)=lW b+256^a.length*y.toNat:=by
     unfold lW;rw[List.reverse_cons,List.map_append,qf];simp[val,hl]
    have la:lW a<256^a.length:=by
     have:=Fv (B:=256) (by omega) (I7 a);simpa[lW] using this
    have lb:lW b<256^a.length:=by
     have:=Fv (B:=256) (by omega) (I7 b);rw[hl];simpa[lW] using this
    have hx:∀{p q r s M:Nat},p<M->q<M->r<s->p+M*r<q+M*s:=by
     intro p q r s M h1 h2 h3;have:M*(r+1)<=M*s:=Nat.mul_le_mul_left M h3;rw[Nat.mul_add] at this;omega
    rw[Lib.compareBytes,ea,eb]
    by_cases h1:x<y
    ·have:=hx la lb (UInt8.lt_iff_toNat_lt.1 h1);rw[if_pos h1,if_pos this]
    ·by_cases h2:y<x
     ·have:=hx lb la (UInt8.lt_iff_toNat_lt.1 h2);rw[if_neg h1,if_pos h2,if_neg (by omega),if_pos this]
     ·have e:x=y:=by
       apply UInt8.toNat_inj.1
       have:=mt UInt8.lt_iff_toNat_lt.2 h1;have:=mt UInt8.lt_iff_toNat_lt.2 h2;omega
      subst e;rw[if_neg h1,if_neg h2,ih b hl];simp only[Nat.add_lt_add_iff_right]
 intro a b hl ha hb;rw[key _ _ (by simp[hl])];unfold lW;simp only[List.map_reverse,List.reverse_reverse];rw[nS ha,nS hb]
theorem QC{m n:Nat}(h:nb m=nb n):Lib.compareBytes (bH m).data.toList (bH n).data.toList=if m<n then-1 else if n<m then 1 else 0:=by
 rw[D7,D7];have:=FI (ag 256 m) (ag 256 n) h (AO (by omega)) (AO (by omega));rw[qY (by omega),qY (by omega)] at this;exact this
end Go.Via
namespace Go.Proofs.YtaffcpfhedadhaaGreatDoor
variable[Go.Via.Mo]
open Go Go.RowKit Go.Via
def Ee(x:Nat)(h:x<18446744073709551616:=by omega):aH Tryz.prog 226 #[.int .u64 x] (.int .i64 (Lib.bitLen x:Nat)):=
 zJ (by kernel_rfl) fun w=>by have:=Tryz.bits_Len64 x w (by omega) (by omega);simpa using this
def tZ(x:Nat)(h:x<4294967296:=by omega):aH Tryz.prog 228 #[.int .u32 x] (.int .i64 (32-(Lib.bitLen x:Int))):=
 zJ (by kernel_rfl) fun w=>by have:=Tryz.bits_LeadingZeros32 x w (by omega) (by omega);simpa using this
def Ef(x y:Nat)(hx:x<18446744073709551616:=by omega)(hy:y<18446744073709551616:=by omega):aH Tryz.prog 202 #[.int .u64 x,.int .u64 y] (.tuple #[.int .u64 ((x*y/18446744073709551616:Nat):Int),.int .u64 ((x*y%18446744073709551616:Nat):Int)]):=
 zJ (by kernel_rfl) fun w=>Tryz.bits_Mul64 x y hx hy w
def Eg(a b:ByteArray):aH Tryz.prog 225 #[.string a,.string b] (.int .i64 (Lib.compareBytes a.data.toList b.data.toList)):=
 zJ (by kernel_rfl) fun w=>Tryz.strings_Compare a b w
def qdV{bl:List Nat}{ops:Array Oper}{K:St->Prop}{rest:List Oper}{nt:Nat}{t:List (Nat×Value)}{L:List aC}{d:Nat}{ty:TypeId}{pos:String}{af:Array Edge}{g:Option (Nat×Bool)}{x y z:Operand}{ts:Array TypeId}(m n:Nat)(hd:Nat.blt d nt=true)(hg:au ops ⟨some d,.call {callee:= .value (.func 238),args:= #[x,y,z],argTypes:=ts},ty,pos,af,g⟩ t=some true)
 (hx:ev t x=some (.int .u64 (m:Int)))(hy:ev t y=some (.int .u64 (n:Int)))(hz:ev t z=some (.int .u64 0))(h:aU Tryz.prog bl ops rest ⟨nt,(d,.tuple #[.int .u64 (((m+n)%18446744073709551616:Nat):Int),.int .u64 (((m+n)/18446744073709551616:Nat):Int)])::t,L⟩ K):
 aU Tryz.prog bl ops (⟨some d,.call {callee:= .value (.func 238),args:= #[x,y,z],argTypes:=ts},ty,pos,af,g⟩::rest) ⟨nt,t,L⟩ K:=
 qgS hd hg rfl (fun B a w hrel=>by
 have h1:(callFunc 238 #[.int .u64 (m:Int),.int .u64 (n:Int),.int .u64 0]).run Tryz.prog w= .ok (.value (.tuple #[.int .u64 (((m+n)%18446744073709551616:Nat):Int),.int .u64 (((m+n)/18446744073709551616:Nat):Int)])) w:=by
  rw[run_callFunc_extern Tryz.func238 (by kernel_rfl) (by kernel_rfl) (by kernel_rfl) (e:=add64Entry) (by kernel_rfl),run_add64 m n 0 (by omega) (by omega) (by omega) (by omega)];simp only[Result.andThen]
  congr 5<;>omega
 have hv:(#[x,y,z]:Array Operand).map a.eval= #[.int .u64 (m:Int),.int .u64 (n:Int),.int .u64 0]:=by
  show(([x,y,z]:List Operand).toArray).map a.eval=_;rw[List.map_toArray,List.map_cons,List.map_cons,List.map_cons,List.map_nil,hrel.ev hx,hrel.ev hy,hrel.ev hz]
 have hf:a.eval (.func 238)= .func (.func 238) #[] #[]:=rfl;simp only[execOp,resolve,hf,hv,Deferred.ofValue,invoke,Sem.run_bind,Sem.run_pure,Result.andThen_ok]
 simpa using h1) h
end Go.Proofs.YtaffcpfhedadhaaGreatDoor
namespace Go.Via
open Go
def qho(a b:Int)(i:Nat)(h:i<2):([.int .i64 a,.int .i64 b]:List Value)[i]? =some (.int .i64 (if i=0 then a else b)):=by
 have:i=0∨i=1:=(by omega);rcases this with rfl|rfl<;>rfl
def qlz(a b:Int)(i:Nat)(ha:0<i->a=0)(he:(if i=0 then a else b)=0):0<i+1->a=0:=fun _=>by
 by_cases h:i=0
 ·rwa [if_pos h] at he
 ·exact ha (by omega)
def qlA(a b:Int)(i:Nat)(he:(if i=0 then a else b)=0):1<i+1->b=0:=fun h=>by
 rwa [if_neg (by omega)] at he
theorem qdW(a b:Int)(i:Nat)(ha:0<i->a=0)(hne:(if i=0 then a else b)≠0):(if i=0 then a else b)=(if a=0 then b else a):=by
 by_cases h:i=0
 ·rw[if_pos h] at hne ⊢;rw[if_neg hne]
 ·rw[if_neg h] at hne ⊢;rw[if_pos (ha (by omega))]
theorem VH{m n:Nat}(h:nb m<nb n):m<n:=CJ (by omega) h
theorem QD(m n:Nat):(if(if(nb m:Int)<(nb n:Int) then(-1:Int) else if(nb n:Int)<(nb m:Int) then 1 else 0)=0 then Lib.compareBytes (bH m).data.toList (bH n).data.toList
 else(if(nb m:Int)<(nb n:Int) then(-1:Int) else if(nb n:Int)<(nb m:Int) then 1 else 0))=lX m n:=by
 unfold lX;rcases Nat.lt_trichotomy (nb m) (nb n) with h|h|h
 ·have:=VH h;rw[if_pos (by omega:(nb m:Int)<nb n),if_neg (by decide),if_pos this]
 ·rw[if_neg (by omega:¬(nb m:Int)<nb n),if_neg (by omega:¬(nb n:Int)<nb m),if_pos rfl,QC h]
 ·have:=VH h;rw[if_neg (by omega:¬(nb m:Int)<nb n),if_pos (by omega:(nb n:Int)<nb m),if_neg (by decide),if_neg (by omega),if_pos this]
def qae(m n:Nat):IntKind.i64.wrap (0-lX m n)= -lX m n:=by
 unfold lX;split<;>(try split)<;>rfl
def VI{b:Int}(h:¬b<0):0<=b.sign:=by
 rcases Int.lt_trichotomy b 0 with h1|h1|h1
 ·exact absurd h1 h
 ·subst h1;decide
 ·rw[Int.sign_eq_one_of_pos h1];decide
def MG{a:Int}(h:a<0):a.sign= -1:=Int.sign_eq_neg_one_of_neg h
theorem qhp{a b:Int}(h:(decide (a<0) !=decide (b<0))=true):(if a.sign<b.sign then(-1:Int) else if b.sign<a.sign then 1 else 0)=zA a b:=by
 unfold zA
 by_cases ha:a<0<;>by_cases hb:b<0
 ·simp[ha,hb] at h
 ·have h1:=MG ha;have h2:0<=b.sign:=VI (by omega);rw[if_pos (by omega),if_pos (by omega)]
 ·have h1:=MG hb;have h2:0<=a.sign:=VI (by omega);rw[if_neg (by omega),if_pos (by omega),if_neg (by omega),if_pos (by omega)]
 ·simp[ha,hb] at h
theorem qdX{a b:Int}(h:(decide (a<0) !=decide (b<0))=false)(h2:decide (a<0)=true): -lX a.natAbs b.natAbs=zA a b:=by
 have ha:=of_decide_eq_true h2;have hb:b<0:=(by simpa[ha] using h);unfold lX zA
 by_cases c1:a<b
 ·rw[if_pos c1,if_neg (by omega),if_pos (by omega)]
 ·rw[if_neg c1]
  by_cases c2:b<a
  ·rw[if_pos c2,if_pos (by omega)];rfl
  ·rw[if_neg c2,if_neg (by omega),if_neg (by omega)];rfl
theorem qdY{a b:Int}(h:(decide (a<0) !=decide (b<0))=false)(h2:decide (a<0)=false):lX a.natAbs b.natAbs=zA a b:=by
 have ha:=of_decide_eq_false h2;have hb:¬b<0:=(by simpa[ha] using h);unfold lX zA
 by_cases c1:a<b
 ·rw[if_pos c1,if_pos (by omega)]
 ·rw[if_neg c1,if_neg (show¬a.natAbs<b.natAbs by omega)]
  by_cases c2:b<a
  ·rw[if_pos c2,if_pos (by omega)]
  ·rw[if_neg c2,if_neg (by omega)]
def XV(z:Int)(h:decide (z<0)=true):(if decide (z<0)=true then-(z.natAbs:Int) else(z.natAbs:Int))=z:=by
 rw[if_pos h];have:=of_decide_eq_true h;omega
def XW(z:Int)(h:decide (z<0)=false):(if decide (z<0)=true then-(z.natAbs:Int) else(z.natAbs:Int))=z:=by
 rw[if_neg (by rw[h];decide)];have:=of_decide_eq_false h;omega
def qaf{l:List UInt8}(h:0<l.length):∃x r,l=x::r:=by cases l with
 |nil=>simp at h
 |cons x r=>exact⟨x,r,rfl⟩
def XX(x:UInt8)(r:List UInt8):(lm (x::r)).extract (1:Int).toNat (lm (x::r)).size=lm r:=by
 rw[xm];show ByteArray.extract _ 1 _=_
 apply ByteArray.ext
 rw[ByteArray.data_extract];simp[lm]
theorem Ub{l:List UInt8}(h:(lm l==⟨#[]⟩)=true):l=[]:=by
 rw[yg] at h
 simpa[lm] using h
def Ps.cells(p:Ps):List Value:=[.string (lm p.s),.int .i64 (p.pos:Nat),.int .i64 (p.k:Nat),.int .i64 (p.at_:Nat),.string (lm p.tx),.int .i64 (p.bat:Nat),.int .i64 (p.be:Nat),.bool p.fail]
end Go.Via
namespace Go.Via
variable[Mo]
open Go Go.RowKit
def NB(l:Dy):List Value:=l.map fun b=> .int .u8 (b.toNat:Nat)
theorem MH(l:Dy):(NB l).length=l.length:=by simp[NB]
section
variable{P:Program}{bl:List Nat}{ops:Array Oper}{K:St->Prop}{rest:List Oper}{nt:Nat}{t:List (Nat×Value)}{L:List aC}{d:Nat}{ty:TypeId}{pos:String}{af:Array Edge}{g:Option (Nat×Bool)}{x y:Operand}
end
end Go.Via
namespace Go.Via
variable[Mo]
open Go Go.RowKit
abbrev Bs.put(B:Bs)(f:Nat)(vs:List Value):Bs:=⟨B.w,B.S,{target:= .fn (.func f) #[],args:=vs.toArray}::B.D⟩
structure Bd where
 b:Option Nat
 n:Nat
 cap:Nat
 s:Dy
def Bd.ok(d:Bd):Prop:=d.s.length<=d.cap∧d.cap<=d.n∧(d.b=none↔d.cap=0)
abbrev OB(m:Nat):={r:OR m 1 // r.b=none↔r.cap=0}
def OB.bd{m:Nat}(r:OB m)(s:Dy):Bd:=⟨r.1.b,r.1.n,r.1.cap,s⟩
theorem OB.ok{m:Nat}(r:OB m){s:Dy}(h:s.length=m):(r.bd s).ok:=⟨by show s.length<=r.1.cap;rw[h];exact r.1.h,by have:=r.1.hn;show r.1.cap<=r.1.n;omega,r.2⟩
theorem Bd.pos{d:Bd}(h:d.ok):d.b≠none->d.n≠0:=fun hb=>by
 have h1:=h.2.1;have h2:d.cap≠0:=fun e=>hb (h.2.2.2 e)
 omega
end Go.Via
namespace Go.Via
variable[Mo]
open Go Go.RowKit
theorem QE(a b:Dy):lm a++lm b=lm (a++b):=by
 apply ByteArray.ext
 simp[lm,ByteArray.data_append]
section
variable{P:Program}{bl:List Nat}{ops:Array Oper}{K:St->Prop}{rest:List Oper}{nt:Nat}{t:List (Nat×Value)}{L:List aC}{d:Nat}{ty:TypeId}{pos:String}{af:Array Edge}{g:Option (Nat×Bool)}{x y z:Operand}
def Uc{T U:Nat}{a b:ByteArray}{p q r:Dy}(hd:Nat.blt d nt=true)(hg:au ops ⟨some d,.binOp .add T x y U,ty,pos,af,g⟩ t=some true)(hx:ev t x=some (.string a))(hy:ev t y=some (.string b))(ha:a=lm p)(hb:b=lm q)(hr:p++q=r)(hlen:p.length+q.length<=17179869184)
 (h:aU P bl ops rest ⟨nt,(d,.string (lm r))::t,L⟩ K):aU P bl ops (⟨some d,.binOp .add T x y U,ty,pos,af,g⟩::rest) ⟨nt,t,L⟩ K:=by
 subst ha;subst hb;subst hr;exact fG hd hg rfl (fun B a w hrel=>by
 have h1:=hrel.ev hx;have h2:=hrel.ev hy;have h3:=run_string_add_sum (P:=P) w (lm p) (lm q) (by rw[xm,xm];omega);rw[QE] at h3;simp[execOp,h1,h2,eqGuard,binOp,h3]) h
end
end Go.Via
namespace Go.Via
variable[Mo]
open Go Go.RowKit
section
variable{P:Program}{bl:List Nat}{ops:Array Oper}{K:St->Prop}{rest:List Oper}{nt:Nat}{t:List (Nat×Value)}{L:List aC}{d:Nat}{ty:TypeId}{pos:String}{af:Array Edge}{g:Option (Nat×Bool)}{x y:Operand}
def FK{f:Nat}{args:List Operand}{ts:Array TypeId}{dst:Option Nat}(vs caps:List Value){A C:List aC}{X:Type}{res:X->Value}{L1:X->List aC}(ks is:List Nat)(mk:X->List aC)(hM:H5 bl=true)(hd:(match dst with|some d=>Nat.blt d nt|none=>true)=true)
 (hg:au ops ⟨dst,.call {callee:= .value x,args:=args.toArray,argTypes:=ts},ty,pos,af,g⟩ t=some true)(hf:ev t x=some (.func (.func f) #[] caps.toArray))
 (hv:args.map (ev t)=vs.map some)(hc:BM P f (A++C) (vs++caps) X res L1)(hn:ks.Nodup)(hk:ks.map (fun k=>L[k]?)=A.map some)(hA:(A.all fun b=>b.own&&(Nat.blt b.e cZ||b.base.isSome))=true)(hp:jc L (is.map some) C)(hC:(C.all fun b=> !b.own)=true)(hap:lG ((ks++is).map some) ((A++C).map (·.own))=true)
 (hlen:∀x,Nat.ble ks.length (L1 x).length=true)(hown:∀x,∀b∈L1 x,b.own=true∨∃a∈A,a.base=b.base∧b.base.isSome=true)(hL:∀x,setG L ks (L1 x)=mk x)
 (h:∀x,aU P bl ops rest (({nt:=nt,t:=t,L:=mk x}:St).put dst (res x)) K):
 aU P bl ops (⟨dst,.call {callee:= .value x,args:=args.toArray,argTypes:=ts},ty,pos,af,g⟩::rest) ⟨nt,t,L⟩ K:=
 Zo hd hg hM (X:=X) (nx:=fun x=>({nt:=nt,t:=t,L:=mk x}:St).put dst (res x)) (fun hd' B a w hr=>by
 have h1:(execOp a.eval ⟨dst,.call {callee:= .value x,args:=args.toArray,argTypes:=ts},ty,pos,af,g⟩).run P w= .ok (.enter f (vs++caps).toArray) w:=by
  have hfv:=hr.ev hf;have hva:args.toArray.map a.eval=vs.toArray:=(by simp[nJ hr hv]);have hp:=hc.1;unfold iM at hp;cases hq:P.funcs[f]? with
  |none=>rw[hq] at hp;cases hp
  |some fn=>
   rw[hq] at hp;simp only[Bool.and_eq_true,Bool.not_eq_true'] at hp;obtain⟨h1,h2⟩:=hp;have h3:fn.body≠none:=by intro hb;rw[hb] at h1;cases h1
   have h4:¬fn.name= "runtime.NumGoroutine" :=(by simpa using h2);simp[execOp,resolve,hfv,hva,Deferred.ofValue,invoke,callFunc,hq,h4,h3]
 unfold Oper.wp;rw[h1];refine(hc.at ks is hn hk hA hp hC hap hlen hown hr.mem).mono ?_;rintro e w' ⟨x,rfl,hw⟩;refine⟨x,?_⟩;rw[hL] at hw;exact hr.put hd' hw) h
end
end Go.Via
namespace Go.Via
variable[Mo]
open Go Go.RowKit
section
variable{P:Program}{bl:List Nat}{ops:Array Oper}{K:St->Prop}{rest:List Oper}{nt:Nat}{t:List (Nat×Value)}{L:List aC}{d:Nat}{ty:TypeId}{pos:String}{af:Array Edge}{g:Option (Nat×Bool)}{x y:Operand}
def nO{f:Nat}{args:List Operand}{ts:Array TypeId}(vs:List Value){v:Value}(hd:Nat.blt d nt=true)(hg:au ops ⟨some d,.call {callee:= .value x,args:=args.toArray,argTypes:=ts},ty,pos,af,g⟩ t=some true)
 (hf:ev t x=some (.func (.func f) #[] #[]))(hv:args.map (ev t)=vs.map some)(hc:aH P f vs.toArray v)(h:aU P bl ops rest ⟨nt,(d,v)::t,L⟩ K):
 aU P bl ops (⟨some d,.call {callee:= .value x,args:=args.toArray,argTypes:=ts},ty,pos,af,g⟩::rest) ⟨nt,t,L⟩ K:=
 ZK (caps:=[]) (L0:=[]) vs [] hd hg hf hv ⟨hc.1,fun w hL=>by
 have:=hc.2 w;rw[List.append_nil];exact this.mono (by rintro e w' ⟨rfl,hb⟩;exact⟨(),rfl,⟨.of hb,fun k b hk=>by simp at hk,fun i j g bi bj hij hi=>by simp at hi,lU.nil _ _⟩⟩)⟩ (by exact trivial) rfl h
def QF{T:Nat}{v:Value}(hd:Nat.blt d nt=true)(hg:au ops ⟨some d,.makeInterface T x,ty,pos,af,g⟩ t=some true)(hx:ev t x=some v)(hm:∀w,(Instr.makeInterface T v).run P w= .ok (.iface T v) w)
 (h:aU P bl ops rest ⟨nt,(d,.iface T v)::t,L⟩ K):aU P bl ops (⟨some d,.makeInterface T x,ty,pos,af,g⟩::rest) ⟨nt,t,L⟩ K:=
 fG hd hg rfl (fun B a w hr=>by simp[execOp,hr.ev hx,hm w]) h
def sQ{n:String}{v:Value}(hd:Nat.blt d nt=true)(hg:au ops ⟨some d,.makeFunc (.method n) #[x] #[],ty,pos,af,g⟩ t=some true)(hx:ev t x=some v)(u:Value)(hm:∀w,(Instr.makeFunc (.method n) #[v] #[]).run P w= .ok u w)(h:aU P bl ops rest ⟨nt,(d,u)::t,L⟩ K):
 aU P bl ops (⟨some d,.makeFunc (.method n) #[x] #[],ty,pos,af,g⟩::rest) ⟨nt,t,L⟩ K:=
 fG hd hg rfl (fun B a w hr=>by simp[execOp,hr.ev hx,hm w]) h
def vH{n:String}{T:Nat}{u:Value}(hd:Nat.blt d nt=true)(hg:au ops ⟨some d,.nilCheck x,ty,pos,af,g⟩ t=some true)(hx:ev t x=some (.func (.method n) #[.iface T u] #[]))(hm:∀w,(nilAhead (P.types.size+Made.depth) T u n).run P w= .ok (some false) w)
 (h:aU P bl ops rest ⟨nt,(d,.func (.method n) #[.iface T u] #[])::t,L⟩ K):aU P bl ops (⟨some d,.nilCheck x,ty,pos,af,g⟩::rest) ⟨nt,t,L⟩ K:=
 fG hd hg rfl (fun B a w hr=>by
 have hp0:Sem.run P (Sem.program Sem.pure) w= .ok P w:=rfl;simp[execOp,hr.ev hx,program,hp0,hm w]) h
def AU{f:Nat}{n:String}{args:List Operand}{ts:Array TypeId}(T:Nat)(u r:Value)(vs:List Value){v:Value}(hd:Nat.blt d nt=true)(hg:au ops ⟨some d,.call {callee:= .invoke x n,args:=args.toArray,argTypes:=ts},ty,pos,af,g⟩ t=some true)
 (hf:ev t x=some (.iface T u))(hm:∀w,(method (P.types.size+Made.depth) T u n).run P w= .ok (f,r) w)(hv:args.map (ev t)=vs.map some)(hc:aH P f (r::vs).toArray v)(h:aU P bl ops rest ⟨nt,(d,v)::t,L⟩ K):
 aU P bl ops (⟨some d,.call {callee:= .invoke x n,args:=args.toArray,argTypes:=ts},ty,pos,af,g⟩::rest) ⟨nt,t,L⟩ K:=
 LJ hd hg rfl rfl (X:=Unit) (nx:=fun _=>⟨nt,(d,v)::t,L⟩) (fun hd' B a w hr=>by
 have h1:(execOp a.eval ⟨some d,.call {callee:= .invoke x n,args:=args.toArray,argTypes:=ts},ty,pos,af,g⟩).run P w= .ok (.enter f (r::vs).toArray) w:=by
  have hfv:=hr.ev hf;have hva:args.toArray.map a.eval=vs.toArray:=(by simp[nJ hr hv]);have hp:=hc.1;have hmw:=hm w;unfold iM at hp;cases hq:P.funcs[f]? with
  |none=>rw[hq] at hp;cases hp
  |some fn=>
   rw[hq] at hp;simp only[Bool.and_eq_true,Bool.not_eq_true'] at hp;obtain⟨h1,h2⟩:=hp;have h3:fn.body≠none:=by intro hb;rw[hb] at h1;cases h1
   have h4:¬fn.name= "runtime.NumGoroutine" :=(by simpa using h2);have hp0:Sem.run P (Sem.program Sem.pure) w= .ok P w:=rfl;simp[execOp,resolve,hfv,hva,invoke,callMethod,program,hp0,hmw,callFunc,hq,h4,h3]
 unfold Oper.wp;rw[h1];refine(hc.2 w).mono ?_;rintro e w' ⟨rfl,hw⟩;exact⟨(),hr.put hd' (hr.mem.same hw)⟩) fun _=>h
end
end Go.Via
namespace Go.Via
variable[Mo]
open Go Go.RowKit
def elW(P:Program)(e:Nat)(s:Nat)(z:Value):Prop:=((P.info? e).map fun inf=>(inf.size,Nat.ble inf.bytes 1024,inf.zero))=some (s,true,some z)∧e<cZ
section
variable{P:Program}{bl:List Nat}{ops:Array Oper}{K:St->Prop}{rest:List Oper}{nt:Nat}{t:List (Nat×Value)}{L:List aC}{d:Nat}{ty:TypeId}{pos:String}{af:Array Edge}{g:Option (Nat×Bool)}{x y:Operand}
def qag{e s:Nat}{z:Value}(h:elW P e s z):∃inf,P.info? e=some inf∧inf.zero=some z∧inf.size=s∧inf.bytes<=1024:=by
 unfold elW at h;replace h:=h.1;cases hq:P.info? e with
 |none=>rw[hq] at h;cases h
 |some inf=>
  rw[hq] at h;simp at h;exact⟨inf,rfl,h.2.2,h.1,h.2.1⟩
def XY{T e s:Nat}{z:Value}{b:aC}{len cap b2o n2 c2:Nat}{b2:aC}(k k2:Nat)(mk:AR (len+n2) s->List aC)(hT:P.underlying T=some (.slice e))(hi:elW P e s z)(hd:Nat.blt d nt=true)
 (hg:au ops ⟨some d,.call {callee:= .builtin .append,args:= #[x,y],argTypes:= #[T,T]},ty,pos,af,g⟩ t=some true)
 (hk:L[k]? =some b)(ho:b.own=true)(he:b.e=e)(hx:ev t x=some (az b.base 0 len cap))(hk2:L[k2]? =some b2)(hb2:b2.base=some b2o)(hy:ev t y=some (az (some b2o) 0 n2 c2))(hs:Nat.blt 0 s=true)(hzs:z.cells.size=s)(hpos:Nat.blt 0 n2=true)
 (hlen:b.cs.length=len*s)(hcap:len<=cap)(hn:cap*s<=b.n)(hlen2:b2.cs.length=n2*s)(h1:∀v∈b2.cs,v.oneCell'=true)(hmax:len+n2<=17179869184)
 (hL:∀r,L.set k ⟨some r.g,e,b.cs++b2.cs,r.n,true⟩=mk r)
 (h:∀r:AR (len+n2) s,aU P bl ops rest ⟨nt,(d,az (some r.g) 0 (len+n2) r.cap)::t,mk r⟩ K):
 aU P bl ops (⟨some d,.call {callee:= .builtin .append,args:= #[x,y],argTypes:= #[T,T]},ty,pos,af,g⟩::rest) ⟨nt,t,L⟩ K:=by
 obtain⟨inf,i1,i2,i3,i5⟩:=qag hi;subst i3;exact Qg hi.2 k k2 mk hT i1 i2 (by simpa using hs) hzs (by omega) hd hg hk ho he hlen hcap hn hx hk2 hlen2 (by simpa using hpos) hb2 hy h1 hmax hL h
end
def eF{B:Bs}{nt:Nat}{t:List (Nat×Value)}{L:List aC}{Q:Act->World->Prop}(k:Nat){b:Option Nat}{e n:Nat}{cs:List Value}{o:Bool}(hk:L[k]? =some ⟨b,e,cs,n,o⟩)(hcs:cs≠[])(h:b.isSome=true->At B ⟨nt,t,L⟩ Q):At B ⟨nt,t,L⟩ Q:=fun a w hr=>h (by
 cases b with
 |none=>exact absurd ((hr.mem.blk k _ hk).2 rfl).1 hcs
 |some g=>rfl) a w hr
end Go.Via
namespace Go.Via
variable[Mo]
open Go Go.RowKit
def nU{P:Program}{B:Bs}{s:St}{Q:Exit->Act->World->Prop}{x y:Code}{nt:Nat}{X:Type}(T:X->List (Nat×Value))(LL:X->List aC)
 (h1:At B s (x.wp P (Exit.then (fun a w=>∃z,kH B ⟨nt,T z,LL z⟩ a w) Q)))(h2:∀z,At B ⟨nt,T z,LL z⟩ (y.wp P Q)):At B s ((Code.seq x y).wp P Q):=
 Tv fun a w hr=>Code.wp_mono (fun e a w h=>by
 cases e with
 |normal=>obtain⟨z,h⟩:=h;exact h2 z a w h
 |_=>exact h) (h1 a w hr)
def Eh{B:Bs}{nt:Nat}{t:List (Nat×Value)}{L:List aC}{X:Type}{T:X->List (Nat×Value)}{LL:X->List aC}(z:X)(lk:jC t (T z))(hw:eH L (LL z)):At B ⟨nt,t,L⟩ (fun a w=>∃z,kH B ⟨nt,T z,LL z⟩ a w):=fun a w hr=>
 ⟨z,hr.df,hr.size,fun d v hd=>hr.tmp d v (lk.mem (d,v) (tV hd)),hw _ _ hr.mem⟩
end Go.Via
namespace Go.Via
variable[Mo]
open Go Go.RowKit
def zK(n:Nat)(R:List Nat):Array Bool:=((List.range n).map fun j=> !R.contains j).toArray
theorem Jl{n:Nat}{R:List Nat}{j:Nat}:(zK n R)[j]? =if j<n then some (!R.contains j) else none:=by
 unfold zK;simp[List.getElem?_map,List.getElem?_range]
 split<;>simp_all
theorem QG{n:Nat}{R:List Nat}{i:Nat}:(zK n R).setIfInBounds i true=zK n (R.filter (· !=i)):=by
 refine Array.ext_getElem? fun j=>?_
 rw[Array.getElem?_setIfInBounds,Jl,Jl];have hs:(zK n R).size=n:=by simp[zK]
 rw[hs]
 by_cases e:i=j
 ·subst e
  by_cases h:i<n
  ·simp[h]
  ·simp[h]
 ·rw[if_neg e];have:(R.filter (· !=i)).contains j=R.contains j:=by
   rw[Bool.eq_iff_iff];simp[List.mem_filter];exact fun _ h=>e h.symm
  rw[this]
theorem qah{n:Nat}:Array.replicate n false=zK n (List.range n):=by
 refine Array.ext_getElem? fun j=>?_
 rw[Jl,Array.getElem?_replicate]
 split
 ·rename_i h;simp[h]
 ·rfl
def wI(P:Program)(ops:Array Oper)(X:Act->World->Prop)(B:Bs)(n:Nat)(R:List Nat)(s:St):Prop:=∀a w,kH B s a w->wpAny P .any ops (vk X) n (zK ops.size R) a w
section
variable{P:Program}{ops:Array Oper}{X:Act->World->Prop}{B:Bs}{n:Nat}{R:List Nat}
def qhq{s:St}(h:Region.ready .any ops (zK ops.size R)=[])(hk:At B s X):wI P ops X B 0 R s:=fun a w hr=>⟨h,hk a w hr⟩
def bT{s:St}(l:List Nat)(h1:Region.ready .any ops (zK ops.size R)=l)(h2:l.isEmpty=false)
 (h:BF (fun i=>∃o,ops[i]? =some o∧aU P [1000000] ops [o] s (fun s'=>wI P ops X B n (R.filter (· !=i)) s')) l):wI P ops X B (n+1) R s:=fun a w hr=>by
 refine⟨fun h0=>?_,fun i hi=>?_⟩
 ·rw[h1] at h0;subst h0;cases h2
 ·rw[h1] at hi;obtain⟨o,ho,hs⟩:=h.mem i hi;have:=iK.sound (K':=fun a' w'=>wpAny P .any ops (vk X) n ((zK ops.size R).setIfInBounds i true) a' w') (Q:=vk X) hs hr (fun s' a' w' hk hr'=>by rw[QG];exact hk a' w' hr')
  unfold wpOp;rw[ho];dsimp only
  split
  ·rename_i hw;rw[if_pos hw] at this;exact .inl this
  ·rename_i hw;rw[if_neg hw] at this;exact this
def qdZ{nt:Nat}{t:List (Nat×Value)}{L:List aC}(i:Nat){l':List Oper}(hc:(Region.noSelect ops&&AB ops (zK ops.size R) [i])=true)(hl:[ops.getD i default]=l')
 (h:aU P [] ops l' ⟨nt,t,[]⟩ (fun s'=>wI P ops X B n (R.filter (· !=i)) ⟨nt,s'.t,L⟩)):wI P ops X B (n+1) R ⟨nt,t,L⟩:=fun a w hr=>by
 simp only[Bool.and_eq_true] at hc;subst hl;have:=zl (P:=P) (B:=B) (w:=w) (nt:=nt) (L:=L) (n:=n) (X:=X) hc.1 (G:=fun t listed=>wI P ops X B n (R.filter (· !=i)) ⟨nt,t,L⟩∧listed=zK ops.size (R.filter (· !=i)))
  (fun t listed a hG hrel=>by rw[hG.2];exact hG.1 a w hrel) [i] (zK ops.size R) t a hc.2 (aU.mono (fun s' h=>⟨h,by simp only[List.foldl];exact QG⟩) h) hr
 rw[show[i].length+n=n+1 by simp;omega] at this;exact this
def qd0{nt:Nat}{t:List (Nat×Value)}{L:List aC}{Z:Type}{T:Z->List (Nat×Value)}{LL:Z->List aC}(h:∀z,wI P ops X B n R ⟨nt,T z,LL z⟩)(z:Z)(lk:jC t (T z))(hw:eH L (LL z)):wI P ops X B n R ⟨nt,t,L⟩:=
 fun a w hr=>h z a w ⟨hr.df,hr.size,fun d v hd=>hr.tmp d v (lk.mem (d,v) (tV hd)),hw _ _ hr.mem⟩
def bz{nt:Nat}{Z:Type}(T:Z->List (Nat×Value))(LL:Z->List aC)(m:Nat)(R':List Nat){s:St}(h:∀z,wI P ops X B m R' ⟨nt,T z,LL z⟩)(k:(∀z,wI P ops X B m R' ⟨nt,T z,LL z⟩)->wI P ops X B n R s):wI P ops X B n R s:=k h
end
def XZ{P:Program}{B:Bs}{Q:Exit->Act->World->Prop}{s:St}{id:Nat}{l:List Oper}(n:Nat)(R:List Nat)(hm:P.follows .mixedOrders=true)(hn:(l.length==n&&R==List.range n)=true)
 (h:wI P l.toArray (Q .normal) B n R s):At B s ((Code.region id l.toArray true).wp P Q):=fun a w hr=>by
 simp only[Bool.and_eq_true,beq_iff_eq] at hn;obtain⟨rfl,rfl⟩:=hn;refine wp_region_any hm ?_;have hsz:l.toArray.size=l.length:=by simp
 refine qW (Q:=vk (Q .normal)) (Q':=Q) (fun _ _ h=>h) (fun _ _ _ h=>h.elim) (fun⟨_,_,h⟩=>h.elim) _ _ _ _ ?_;rw[qah];have:=h a _ hr.drew;rw[hsz] at*;exact this
end Go.Via
namespace Go.Via
open Go Go.RowKit
def AV{P:Program}{B:Bs}{Q:Exit->Act->World->Prop}{nt:Nat}{t:List (Nat×Value)}{L:List aC}{id:Nat}{l:List Oper}{Z:Type}(T:Z->List (Nat×Value))(LL:Z->List aC)(n:Nat)(R:List Nat)(hm:P.follows .mixedOrders=true)
 (hn:(l.length==n&&R==List.range n&&(Region.ready .any l.toArray (zK l.toArray.size [])).isEmpty)=true)
 (h:(∀z,wI P l.toArray (Q .normal) B 0 [] ⟨nt,T z,LL z⟩)->wI P l.toArray (Q .normal) B n R ⟨nt,t,L⟩)(hk:∀z,At B ⟨nt,T z,LL z⟩ (Q .normal)):At B ⟨nt,t,L⟩ ((Code.region id l.toArray true).wp P Q):=by
 rw[Bool.and_eq_true] at hn;exact XZ n R hm hn.1 (h fun z=>qhq (List.isEmpty_iff.1 hn.2) (hk z))
end Go.Via
