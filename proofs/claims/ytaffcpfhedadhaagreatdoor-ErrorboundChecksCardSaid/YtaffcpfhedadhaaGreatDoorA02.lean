/-
  Part 2 (chapter 32): lemmas, walks. Each theorem states its own conditions.
-/
import Derived.Shelf.Strings.Builder1
import Derived.Shelf.Strings.Builder2
import Derived.Shelf.Small.Utf8
import Derived.Shelf.Small.Bits
import Derived.Shelf.Small.Strs
import Derived.Shelf.Small.Wraps
import Derived.Shelf.Strings.BuilderF
import Derived.Shelf.Strconv.Itoa0
import Derived.Shelf.Strings.Search1
import Derived.Shelf.Strings.Prefix
import Derived.Shelf.Strings.Runes
import Derived.Shelf.Strings.AsciiSet
import Derived.Shelf.Bits.Mul64
import Derived.Shelf.Strings.Repeat
import Derived.Shelf.Unicode.DecodeSlow
import Derived.Test.YtaffcpfhedadhaaGreatDoorProg
import Derived.Test.YtaffcpfhedadhaaGreatDoorA01
set_option linter.all false
set_option maxRecDepth 20000
set_option maxHeartbeats 20000000
section
variable{P Q:Prop}{T:Type}{R:T->Prop}
def dQ(h:P:=by grind):=h
end
namespace Go.Proofs
open Go.Shelf
def Tryz.lays126_ren:Go.Shelf.Ren:=⟨fun|126=>230|n=>n,fun|5=>5|3=>3|9=>9|n=>n,fun|n=>n⟩
def Tryz.lays126:Go.Proofs.Lays.n126 Tryz.prog Tryz.lays126_ren:={
 mixed:=ak
 f126:=Tryz.func230.trans (congrArg some ak)
 t3:=Tryz.underlying3
 a3:=Tryz.isAgg3
 z3:=Tryz.sizeOf3
 v3:=Tryz.zeroValue3
 t5:=Tryz.underlying5
 a5:=Tryz.isAgg5
 z5:=Tryz.sizeOf5
 v5:=Tryz.zeroValue5
 t9:=Tryz.underlying9
 a9:=Tryz.isAgg9
 z9:=Tryz.sizeOf9
 v9:=Tryz.zeroValue9}
def Tryz.bits_Len8(x:Int)(w:World)(h0:0<=x)(h1:x<=255):
 Calls Tryz.prog 230 #[.int .u8 x] w fun e w'=>e= .returned (.int .i64 (Lib.bitLen x.toNat))∧w'=w:=Any.bits_Len8 Tryz.lays126 x w h0 h1
def Tryz.lays133_ren:Go.Shelf.Ren:=⟨fun|133=>228|128=>247|n=>n,fun|51=>272|3=>3|4=>4|46=>236|5=>5|9=>9|n=>n,fun|n=>n⟩
def Tryz.lays133:Go.Proofs.Lays.n133 Tryz.prog Tryz.lays133_ren:={
 mixed:=ak
 f128:=Tryz.func247.trans (congrArg some ak)
 f133:=Tryz.func228.trans (congrArg some ak)
 t3:=Tryz.underlying3
 a3:=Tryz.isAgg3
 z3:=Tryz.sizeOf3
 v3:=Tryz.zeroValue3
 t4:=Tryz.underlying4
 a4:=Tryz.isAgg4
 z4:=Tryz.sizeOf4
 v4:=Tryz.zeroValue4
 t5:=Tryz.underlying5
 a5:=Tryz.isAgg5
 z5:=Tryz.sizeOf5
 v5:=Tryz.zeroValue5
 t9:=Tryz.underlying9
 a9:=Tryz.isAgg9
 z9:=Tryz.sizeOf9
 v9:=Tryz.zeroValue9
 t46:=Tryz.underlying236
 a46:=Tryz.isAgg236
 z46:=Tryz.sizeOf236
 v46:=Tryz.zeroValue236
 t51:=Tryz.underlying272
 a51:=Tryz.isAgg272
 z51:=Tryz.sizeOf272
 v51:=Tryz.zeroValue272}
def Tryz.bits_LeadingZeros32(x:Int)(w:World)(h0:0<=x)(h1:x<=4294967295):
 Calls Tryz.prog 228 #[.int .u32 x] w fun e w'=>e= .returned (.int .i64 (32-(Lib.bitLen x.toNat:Int)))∧w'=w:=Any.bits_LeadingZeros32 Tryz.lays133 x w h0 h1
def Tryz.lays106_ren:Go.Shelf.Ren:=⟨fun|106=>225|213=>248|265=>271|n=>n,fun|9=>9|3=>3|n=>n,fun|n=>n⟩
def Tryz.lays106:Go.Proofs.Lays.n106 Tryz.prog Tryz.lays106_ren:={
 mixed:=ak
 f106:=Tryz.func225.trans (congrArg some ak)
 f213:=Tryz.func248.trans (congrArg some ak)
 f265:=Tryz.func271.trans (congrArg some ak)
 t3:=Tryz.underlying3
 a3:=Tryz.isAgg3
 z3:=Tryz.sizeOf3
 v3:=Tryz.zeroValue3
 t9:=Tryz.underlying9
 a9:=Tryz.isAgg9
 z9:=Tryz.sizeOf9
 v9:=Tryz.zeroValue9}
open Go.RowKit in
def Tryz.strings_Compare(a b:ByteArray)(w:World):
 Calls Tryz.prog 225 #[.string a,.string b] w fun e w'=>e= .returned (.int .i64 (Lib.compareBytes a.data.toList b.data.toList))∧w'=w:=Any.strings_Compare Tryz.lays106 a b w
def Tryz.lays129_ren:Go.Shelf.Ren:=⟨fun|129=>226|n=>n,fun|53=>189|3=>3|4=>4|46=>236|5=>5|9=>9|n=>n,fun|n=>n⟩
def Tryz.lays129:Go.Proofs.Lays.n129 Tryz.prog Tryz.lays129_ren:={
 mixed:=ak
 f129:=Tryz.func226.trans (congrArg some ak)
 t3:=Tryz.underlying3
 a3:=Tryz.isAgg3
 z3:=Tryz.sizeOf3
 v3:=Tryz.zeroValue3
 t4:=Tryz.underlying4
 a4:=Tryz.isAgg4
 z4:=Tryz.sizeOf4
 v4:=Tryz.zeroValue4
 t5:=Tryz.underlying5
 a5:=Tryz.isAgg5
 z5:=Tryz.sizeOf5
 v5:=Tryz.zeroValue5
 t9:=Tryz.underlying9
 a9:=Tryz.isAgg9
 z9:=Tryz.sizeOf9
 v9:=Tryz.zeroValue9
 t46:=Tryz.underlying236
 a46:=Tryz.isAgg236
 z46:=Tryz.sizeOf236
 v46:=Tryz.zeroValue236
 t53:=Tryz.underlying189
 a53:=Tryz.isAgg189
 z53:=Tryz.sizeOf189
 v53:=Tryz.zeroValue189}
def Tryz.bits_Len64(x:Int)(w:World)(h0:0<=x)(h1:x<=18446744073709551615):
 Calls Tryz.prog 226 #[.int .u64 x] w fun e w'=>e= .returned (.int .i64 (Lib.bitLen x.toNat))∧w'=w:=Any.bits_Len64 Tryz.lays129 x w h0 h1
def Tryz.lays264_ren:Go.Shelf.Ren:=⟨fun|264=>202|n=>n,fun|53=>189|46=>236|n=>n,fun|n=>n⟩
def Tryz.lays264:Go.Proofs.Lays.n264 Tryz.prog Tryz.lays264_ren:={
 mixed:=ak
 f264:=Tryz.func202.trans (congrArg some ak)
 t46:=Tryz.underlying236
 a46:=Tryz.isAgg236
 z46:=Tryz.sizeOf236
 v46:=Tryz.zeroValue236
 t53:=Tryz.underlying189
 a53:=Tryz.isAgg189
 z53:=Tryz.sizeOf189
 v53:=Tryz.zeroValue189}
open Go.RowKit Go.Lib in
def Tryz.bits_Mul64(x y:Nat)(hx:x<18446744073709551616)(hy:y<18446744073709551616)(w:World):
 Calls Tryz.prog 202 #[.int .u64 x,.int .u64 y] w fun e w'=>e= .returned (.tuple #[.int .u64 ((x*y/18446744073709551616:Nat):Int),.int .u64 ((x*y%18446744073709551616:Nat):Int)])∧w'=w:=Any.bits_Mul64 Tryz.lays264 x y hx hy w
def Tryz.lays105_ren:Go.Shelf.Ren:=⟨fun|105=>231|212=>249|99=>250|165=>251|166=>252|170=>253|169=>254|263=>272|264=>202|206=>273|240=>274|241=>275|276=>285|277=>286|n=>n,fun|9=>9|3=>3|4=>4|20=>20|0=>0|46=>236|109=>303|5=>5|72=>308|76=>312|51=>272|146=>334|53=>189|148=>267|70=>306|37=>221|75=>311|127=>336|164=>346|80=>273|n=>n,fun|n=>n⟩
def Tryz.lays105:Go.Proofs.Lays.n105 Tryz.prog Tryz.lays105_ren:={
 mixed:=ak
 f99:=Tryz.func250.trans (congrArg some ak)
 f105:=Tryz.func231.trans (congrArg some ak)
 f165:=Tryz.func251.trans (congrArg some ak)
 f166:=Tryz.func252.trans (congrArg some ak)
 f169:=Tryz.func254.trans (congrArg some ak)
 f170:=Tryz.func253.trans (congrArg some ak)
 f206:=Tryz.func273.trans (congrArg some ak)
 f212:=Tryz.func249.trans (congrArg some ak)
 f240:=Tryz.func274.trans (congrArg some ak)
 f241:=Tryz.func275.trans (congrArg some ak)
 f263:=Tryz.func272.trans (congrArg some ak)
 f264:=Tryz.func202.trans (congrArg some ak)
 f276:=Tryz.func285.trans (congrArg some ak)
 f277:=Tryz.func286.trans (congrArg some ak)
 t0:=Tryz.underlying0
 a0:=Tryz.isAgg0
 z0:=Tryz.sizeOf0
 v0:=Tryz.zeroValue0
 t3:=Tryz.underlying3
 a3:=Tryz.isAgg3
 z3:=Tryz.sizeOf3
 v3:=Tryz.zeroValue3
 t4:=Tryz.underlying4
 a4:=Tryz.isAgg4
 z4:=Tryz.sizeOf4
 v4:=Tryz.zeroValue4
 t5:=Tryz.underlying5
 a5:=Tryz.isAgg5
 z5:=Tryz.sizeOf5
 v5:=Tryz.zeroValue5
 t9:=Tryz.underlying9
 a9:=Tryz.isAgg9
 z9:=Tryz.sizeOf9
 v9:=Tryz.zeroValue9
 t20:=Tryz.underlying20
 a20:=Tryz.isAgg20
 z20:=Tryz.sizeOf20
 v20:=Tryz.zeroValue20
 t37:=Tryz.underlying221
 a37:=Tryz.isAgg221
 z37:=Tryz.sizeOf221
 v37:=Tryz.zeroValue221
 t46:=Tryz.underlying236
 a46:=Tryz.isAgg236
 z46:=Tryz.sizeOf236
 v46:=Tryz.zeroValue236
 t51:=Tryz.underlying272
 a51:=Tryz.isAgg272
 z51:=Tryz.sizeOf272
 v51:=Tryz.zeroValue272
 t53:=Tryz.underlying189
 a53:=Tryz.isAgg189
 z53:=Tryz.sizeOf189
 v53:=Tryz.zeroValue189
 t70:=Tryz.underlying306
 a70:=Tryz.isAgg306
 z70:=Tryz.sizeOf306
 v70:=Tryz.zeroValue306
 t72:=Tryz.underlying308
 a72:=Tryz.isAgg308
 z72:=Tryz.sizeOf308
 v72:=Tryz.zeroValue308
 t75:=Tryz.underlying311
 a75:=Tryz.isAgg311
 z75:=Tryz.sizeOf311
 v75:=Tryz.zeroValue311
 t76:=Tryz.underlying312
 a76:=Tryz.isAgg312
 z76:=Tryz.sizeOf312
 v76:=Tryz.zeroValue312
 t109:=Tryz.underlying303
 a109:=Tryz.isAgg303
 z109:=Tryz.sizeOf303
 v109:=Tryz.zeroValue303
 t127:=Tryz.underlying336
 a127:=Tryz.isAgg336
 z127:=Tryz.sizeOf336
 v127:=Tryz.zeroValue336
 t146:=Tryz.underlying334
 a146:=Tryz.isAgg334
 z146:=Tryz.sizeOf334
 v146:=Tryz.zeroValue334
 t148:=Tryz.underlying267
 a148:=Tryz.isAgg267
 z148:=Tryz.sizeOf267
 v148:=Tryz.zeroValue267
 t164:=Tryz.underlying346
 a164:=Tryz.isAgg346
 z164:=Tryz.sizeOf346
 v164:=Tryz.zeroValue346}
def Tryz.Builder_Extra_105:Builder.Extra Tryz.prog Tryz.lays105_ren:={
 sizeBuilder:=ak
 liesBuilder:=ak
 t5:=Tryz.underlying5
 a5:=Tryz.isAgg5
 z5:=Tryz.sizeOf5
 v5:=Tryz.zeroValue5
 infoByte:=ak
 cellsByte:=ak
 sizeByte:=ak
 neB5:=by decide}
open Go.RowKit Go.Lib in
def Tryz.strings_Repeat(s:ByteArray)(c:Nat)(w:World)(hc:c<=9223372036854775807)(hlen:s.size*c<=140737488355328):
 Calls Tryz.prog 231 #[.string s,.int .i64 c] w fun e w'=>e= .returned (.string ⟨(Lib.repeatL s.data.toList c).toArray⟩)∧Below w.heap.size w w':=Any.strings_Repeat Tryz.lays105 Tryz.Builder_Extra_105 s c w hc hlen
end Go.Proofs
namespace Go.Via
def nn(R u v:Rat):Prop:=(0<=u∧v*v*R<=u*u)∨(0<=v∧u*u<=v*v*R)
def pV(x:Rat):0<=x*x:=by
 by_cases h:0<=x
 ·exact Rat.mul_nonneg h h
 ·have h1:0<= -x:=dQ
  have:=Rat.mul_nonneg h1 h1;have e: -x* -x=x*x:=dQ
  rwa [e] at this
def eX{x y:Rat}(hx:0<=x)(hy:0<=y):0<=x*y:=Rat.mul_nonneg hx hy
def xx{x y:Rat}(hx:0<x)(hy:0<y):0<x*y:=by
 have h1:=Rat.mul_nonneg (show 0<=x by grind) (show 0<=y by grind);have h2:x*y≠0:=fun e=>by
  rcases Rat.mul_eq_zero.1 e with h|h<;>grind
 grind
def IK{a b c d:Rat}(ha:0<=a)(hab:a<=b)(hc:0<=c)(hcd:c<=d):a*c<=b*d:=by
 have h1:=eX (show 0<=b-a by grind) hc;have h2:=eX (show 0<=b by grind) (show 0<=d-c by grind)
 grind
def qa3{x y:Rat}(hy:0<=y)(h:y<x):y*y<x*x:=by
 have h1:=xx (show 0<x-y by grind) (show 0<x by grind);have h2:=eX (show 0<=x-y by grind) hy
 grind
def Gj{x y:Rat}(hy:0<=y)(h:x*x<=y*y):x<=y∧ -y<=x:=by
 constructor
 ·refine Rat.not_lt.1 fun hl=>?_
  have:=qa3 hy hl
  grind
 ·refine Rat.not_lt.1 fun hl=>?_
  have:=qa3 hy (show y< -x by grind)
  grind
def qfb{R u v u' v':Rat}(hR:0<=R)(h:nn R u v)(h':nn R u' v'):nn R (u*u'+v*v'*R) (u*v'+u'*v):=by
 have N:(u*u'+v*v'*R)*(u*u'+v*v'*R)-(u*v'+u'*v)*(u*v'+u'*v)*R=(u*u-v*v*R)*(u'*u'-v'*v'*R):=dQ;rcases h with⟨h1,h2⟩|⟨h1,h2⟩<;>rcases h' with⟨h3,h4⟩|⟨h3,h4⟩
 ·left
  have k:(v*v'*R)*(v*v'*R)<=(u*u')*(u*u'):=by
   have:=IK (eX (pV v) hR) h2 (eX (pV v') hR) h4
   grind
  have:=Gj (eX h1 h3) k;have:=eX (show 0<=u*u-v*v*R by grind) (show 0<=u'*u'-v'*v'*R by grind)
  constructor<;>grind
 ·right
  have k:(u'*v)*(u'*v)<=(u*v')*(u*v'):=by
   have a1:=eX (pV v) (show 0<=v'*v'*R-u'*u' by grind);have a2:=eX (pV v') (show 0<=u*u-v*v*R by grind)
   grind
  have:=Gj (eX h1 h3) k;have:=eX (show 0<=u*u-v*v*R by grind) (show 0<=v'*v'*R-u'*u' by grind)
  constructor<;>grind
 ·right
  have k:(u*v')*(u*v')<=(u'*v)*(u'*v):=by
   have a1:=eX (pV v') (show 0<=v*v*R-u*u by grind);have a2:=eX (pV v) (show 0<=u'*u'-v'*v'*R by grind)
   grind
  have:=Gj (eX h3 h1) k;have:=eX (show 0<=v*v*R-u*u by grind) (show 0<=u'*u'-v'*v'*R by grind)
  constructor<;>grind
 ·left
  have k:(u*u')*(u*u')<=(v*v'*R)*(v*v'*R):=by
   have:=IK (pV u) h2 (pV u') h4
   grind
  have:=Gj (eX (eX h1 h3) hR) k;have:=eX (show 0<=v*v*R-u*u by grind) (show 0<=v'*v'*R-u'*u' by grind)
  constructor<;>grind
def qa4{R u v u' v':Rat}(hR:0<=R)(h1:0<=u)(h2:v*v*R<=u*u)(h3:0<=v')(h4:u'*u'<=v'*v'*R):nn R (u+u') (v+v'):=by
 by_cases hu:0<=u+u'
 ·by_cases hv:0<=v+v'
  ·by_cases hn:(v+v')*(v+v')*R<=(u+u')*(u+u')
   ·exact .inl ⟨hu,hn⟩
   ·exact .inr ⟨hv,dQ⟩
  ·
   refine .inl ⟨hu,?_⟩
   by_cases hu':0<=u'
   ·have a1:(v+v')*(v+v')<=v*v:=by
     have:=eX h3 (show 0<= -v-v' by grind);have:=eX h3 (show 0<= -v by grind)
     grind
    have a2:=eX (show 0<=v*v-(v+v')*(v+v') by grind) hR;have a3:=eX h1 hu';have a4:=pV u'
    grind
   ·
    have k:(u'*v)*(u'*v)<=(u*v')*(u*v'):=by
     have a1:=eX (pV v) (show 0<=v'*v'*R-u'*u' by grind);have a2:=eX (pV v') (show 0<=u*u-v*v*R by grind)
     grind
    have k2:=(Gj (eX h1 h3) k).1
    have hz:0< -v:=dQ;have b1:0<=u*(v+v')-(u+u')*v:=dQ;have b2:0<=u* -(v+v'):=eX h1 dQ;have b3:u* -(v+v')<=(u+u')* -v:=dQ;have b4:=IK b2 b3 b2 b3
    have b5:=eX (pV (v+v')) (show 0<=u*u-v*v*R by grind);have b6:(v*v)*((v+v')*(v+v')*R)<=(v*v)*((u+u')*(u+u')):=dQ;refine Rat.not_lt.1 fun hl=>?_
    have:=xx (xx hz hz) (show 0<(v+v')*(v+v')*R-(u+u')*(u+u') by grind)
    grind
 ·
  have hu':u'<0:=dQ
  by_cases hv:0<=v+v'
  ·refine .inr ⟨hv,?_⟩
   by_cases hv1:0<=v
   ·have a1:(u+u')*(u+u')<=u'*u':=by
     have:=eX h1 (show 0<= -u-u' by grind);have:=eX h1 (show 0<= -u' by grind)
     grind
    have a2:=eX (eX hv1 h3) hR;have a3:=eX (pV v) hR
    grind
   ·have k:(u'*v)*(u'*v)<=(u*v')*(u*v'):=by
     have a1:=eX (pV v) (show 0<=v'*v'*R-u'*u' by grind);have a2:=eX (pV v') (show 0<=u*u-v*v*R by grind)
     grind
    have k2:=(Gj (eX h1 h3) k).1;have hv':0<v':=dQ;have b2:0<=v'* -(u+u'):=eX h3 dQ;have b3:v'* -(u+u')<= -u'*(v+v'):=dQ;have b4:=IK b2 b3 b2 b3;have b5:=eX (pV (v+v')) (show 0<=v'*v'*R-u'*u' by grind);have b6:(v'*v')*((u+u')*(u+u'))<=(v'*v')*((v+v')*(v+v')*R):=dQ;refine Rat.not_lt.1 fun hl=>?_
    have:=xx (xx hv' hv') (show 0<(u+u')*(u+u')-(v+v')*(v+v')*R by grind)
    grind
  ·exfalso
   have a1:=qa3 h3 (show v'< -v by grind);have a2:=qa3 h1 (show u< -u' by grind);have a3:=eX (show 0<= -v* -v-v'*v' by grind) hR
   grind
def SK{R u v u' v':Rat}(hR:0<=R)(h:nn R u v)(h':nn R u' v'):nn R (u+u') (v+v'):=by
 rcases h with⟨h1,h2⟩|⟨h1,h2⟩<;>rcases h' with⟨h3,h4⟩|⟨h3,h4⟩
 ·left
  have k:(v*v'*R)*(v*v'*R)<=(u*u')*(u*u'):=by
   have:=IK (eX (pV v) hR) h2 (eX (pV v') hR) h4
   grind
  have:=(Gj (eX h1 h3) k).1
  constructor<;>grind
 ·exact qa4 hR h1 h2 h3 h4
 ·have:=qa4 hR h3 h4 h1 h2
  rwa [Rat.add_comm u u',Rat.add_comm v v']
 ·right
  have k:(u*u')*(u*u')<=(v*v'*R)*(v*v'*R):=by
   have:=IK (pV u) h2 (pV u') h4
   grind
  have:=(Gj (eX (eX h1 h3) hR) k).1
  constructor<;>grind
def qfc{R u:Rat}(hu:0<=u):nn R u 0:= .inl ⟨hu,by have:=pV u;grind⟩
def AZ{R u v c:Rat}(hR:0<=R)(hc:0<=c)(h:nn R u v):nn R (c*u) (c*v):=by
 have:=qfb hR (qfc (R:=R) hc) h;have e1:c*u+0*v*R=c*u:=dQ;have e2:c*v+u*0=c*v:=dQ
 rwa [e1,e2] at this
end Go.Via
