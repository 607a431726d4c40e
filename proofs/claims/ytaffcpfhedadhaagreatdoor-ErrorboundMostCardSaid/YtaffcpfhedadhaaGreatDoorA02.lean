/-
  Part 2 (chapter 32): lemmas, walks. Each theorem states its own conditions.
-/
import Derived.Shelf.Strings.Builder1
import Derived.Shelf.Strings.Builder2
import Derived.Shelf.Small.Utf8
import Derived.Shelf.Small.Bits
import Derived.Shelf.Small.Strs
import Derived.Shelf.Small.Wraps
import Derived.Shelf.Strings.BuilderF
import Derived.Shelf.Strconv.Itoa0
import Derived.Shelf.Strings.Search1
import Derived.Shelf.Strings.Prefix
import Derived.Shelf.Strings.Runes
import Derived.Shelf.Strings.AsciiSet
import Derived.Shelf.Bits.Mul64
import Derived.Shelf.Strings.Repeat
import Derived.Shelf.Unicode.DecodeSlow
import Derived.Test.YtaffcpfhedadhaaGreatDoorProg
import Derived.Shelf.SlSortCmp.WholeK
import Derived.Shelf.SlSortCmp.NoneTotal
import Derived.Test.YtaffcpfhedadhaaGreatDoorA01
set_option linter.all false
set_option maxRecDepth 20000
set_option maxHeartbeats 20000000
section
variable{P Q:Prop}{T:Type}{R:T->Prop}
def ak(h:P:=by kernel_rfl):=h
end
namespace Go.Proofs
open Go.Shelf
def Tryz.lays126_ren:Go.Shelf.Ren:=⟨fun|126=>230|n=>n,fun|5=>5|3=>3|9=>9|n=>n,fun|n=>n⟩
def Tryz.lays126:Go.Proofs.Lays.n126 Tryz.prog Tryz.lays126_ren:={
 mixed:=ak
 f126:=Tryz.func230.trans (congrArg some ak)
 t3:=Tryz.underlying3
 a3:=Tryz.isAgg3
 z3:=Tryz.sizeOf3
 v3:=Tryz.zeroValue3
 t5:=Tryz.underlying5
 a5:=Tryz.isAgg5
 z5:=Tryz.sizeOf5
 v5:=Tryz.zeroValue5
 t9:=Tryz.underlying9
 a9:=Tryz.isAgg9
 z9:=Tryz.sizeOf9
 v9:=Tryz.zeroValue9}
def Tryz.bits_Len8(x:Int)(w:World)(h0:0<=x)(h1:x<=255):
 Calls Tryz.prog 230 #[.int .u8 x] w fun e w'=>e= .returned (.int .i64 (Lib.bitLen x.toNat))∧w'=w:=Any.bits_Len8 Tryz.lays126 x w h0 h1
def Tryz.lays133_ren:Go.Shelf.Ren:=⟨fun|133=>228|128=>247|n=>n,fun|51=>272|3=>3|4=>4|46=>236|5=>5|9=>9|n=>n,fun|n=>n⟩
def Tryz.lays133:Go.Proofs.Lays.n133 Tryz.prog Tryz.lays133_ren:={
 mixed:=ak
 f128:=Tryz.func247.trans (congrArg some ak)
 f133:=Tryz.func228.trans (congrArg some ak)
 t3:=Tryz.underlying3
 a3:=Tryz.isAgg3
 z3:=Tryz.sizeOf3
 v3:=Tryz.zeroValue3
 t4:=Tryz.underlying4
 a4:=Tryz.isAgg4
 z4:=Tryz.sizeOf4
 v4:=Tryz.zeroValue4
 t5:=Tryz.underlying5
 a5:=Tryz.isAgg5
 z5:=Tryz.sizeOf5
 v5:=Tryz.zeroValue5
 t9:=Tryz.underlying9
 a9:=Tryz.isAgg9
 z9:=Tryz.sizeOf9
 v9:=Tryz.zeroValue9
 t46:=Tryz.underlying236
 a46:=Tryz.isAgg236
 z46:=Tryz.sizeOf236
 v46:=Tryz.zeroValue236
 t51:=Tryz.underlying272
 a51:=Tryz.isAgg272
 z51:=Tryz.sizeOf272
 v51:=Tryz.zeroValue272}
def Tryz.bits_LeadingZeros32(x:Int)(w:World)(h0:0<=x)(h1:x<=4294967295):
 Calls Tryz.prog 228 #[.int .u32 x] w fun e w'=>e= .returned (.int .i64 (32-(Lib.bitLen x.toNat:Int)))∧w'=w:=Any.bits_LeadingZeros32 Tryz.lays133 x w h0 h1
def Tryz.lays106_ren:Go.Shelf.Ren:=⟨fun|106=>225|213=>248|265=>271|n=>n,fun|9=>9|3=>3|n=>n,fun|n=>n⟩
def Tryz.lays106:Go.Proofs.Lays.n106 Tryz.prog Tryz.lays106_ren:={
 mixed:=ak
 f106:=Tryz.func225.trans (congrArg some ak)
 f213:=Tryz.func248.trans (congrArg some ak)
 f265:=Tryz.func271.trans (congrArg some ak)
 t3:=Tryz.underlying3
 a3:=Tryz.isAgg3
 z3:=Tryz.sizeOf3
 v3:=Tryz.zeroValue3
 t9:=Tryz.underlying9
 a9:=Tryz.isAgg9
 z9:=Tryz.sizeOf9
 v9:=Tryz.zeroValue9}
open Go.RowKit in
def Tryz.strings_Compare(a b:ByteArray)(w:World):
 Calls Tryz.prog 225 #[.string a,.string b] w fun e w'=>e= .returned (.int .i64 (Lib.compareBytes a.data.toList b.data.toList))∧w'=w:=Any.strings_Compare Tryz.lays106 a b w
def Tryz.lays129_ren:Go.Shelf.Ren:=⟨fun|129=>226|n=>n,fun|53=>189|3=>3|4=>4|46=>236|5=>5|9=>9|n=>n,fun|n=>n⟩
def Tryz.lays129:Go.Proofs.Lays.n129 Tryz.prog Tryz.lays129_ren:={
 mixed:=ak
 f129:=Tryz.func226.trans (congrArg some ak)
 t3:=Tryz.underlying3
 a3:=Tryz.isAgg3
 z3:=Tryz.sizeOf3
 v3:=Tryz.zeroValue3
 t4:=Tryz.underlying4
 a4:=Tryz.isAgg4
 z4:=Tryz.sizeOf4
 v4:=Tryz.zeroValue4
 t5:=Tryz.underlying5
 a5:=Tryz.isAgg5
 z5:=Tryz.sizeOf5
 v5:=Tryz.zeroValue5
 t9:=Tryz.underlying9
 a9:=Tryz.isAgg9
 z9:=Tryz.sizeOf9
 v9:=Tryz.zeroValue9
 t46:=Tryz.underlying236
 a46:=Tryz.isAgg236
 z46:=Tryz.sizeOf236
 v46:=Tryz.zeroValue236
 t53:=Tryz.underlying189
 a53:=Tryz.isAgg189
 z53:=Tryz.sizeOf189
 v53:=Tryz.zeroValue189}
def Tryz.bits_Len64(x:Int)(w:World)(h0:0<=x)(h1:x<=18446744073709551615):
 Calls Tryz.prog 226 #[.int .u64 x] w fun e w'=>e= .returned (.int .i64 (Lib.bitLen x.toNat))∧w'=w:=Any.bits_Len64 Tryz.lays129 x w h0 h1
def Tryz.lays264_ren:Go.Shelf.Ren:=⟨fun|264=>202|n=>n,fun|53=>189|46=>236|n=>n,fun|n=>n⟩
def Tryz.lays264:Go.Proofs.Lays.n264 Tryz.prog Tryz.lays264_ren:={
 mixed:=ak
 f264:=Tryz.func202.trans (congrArg some ak)
 t46:=Tryz.underlying236
 a46:=Tryz.isAgg236
 z46:=Tryz.sizeOf236
 v46:=Tryz.zeroValue236
 t53:=Tryz.underlying189
 a53:=Tryz.isAgg189
 z53:=Tryz.sizeOf189
 v53:=Tryz.zeroValue189}
open Go.RowKit Go.Lib in
def Tryz.bits_Mul64(x y:Nat)(hx:x<18446744073709551616)(hy:y<18446744073709551616)(w:World):
 Calls Tryz.prog 202 #[.int .u64 x,.int .u64 y] w fun e w'=>e= .returned (.tuple #[.int .u64 ((x*y/18446744073709551616:Nat):Int),.int .u64 ((x*y%18446744073709551616:Nat):Int)])∧w'=w:=Any.bits_Mul64 Tryz.lays264 x y hx hy w
def Tryz.lays105_ren:Go.Shelf.Ren:=⟨fun|105=>231|212=>249|99=>250|165=>251|166=>252|170=>253|169=>254|263=>272|264=>202|206=>273|240=>274|241=>275|276=>285|277=>286|n=>n,fun|9=>9|3=>3|4=>4|20=>20|0=>0|46=>236|109=>303|5=>5|72=>308|76=>312|51=>272|146=>334|53=>189|148=>267|70=>306|37=>221|75=>311|127=>336|164=>346|80=>273|n=>n,fun|n=>n⟩
def Tryz.lays105:Go.Proofs.Lays.n105 Tryz.prog Tryz.lays105_ren:={
 mixed:=ak
 f99:=Tryz.func250.trans (congrArg some ak)
 f105:=Tryz.func231.trans (congrArg some ak)
 f165:=Tryz.func251.trans (congrArg some ak)
 f166:=Tryz.func252.trans (congrArg some ak)
 f169:=Tryz.func254.trans (congrArg some ak)
 f170:=Tryz.func253.trans (congrArg some ak)
 f206:=Tryz.func273.trans (congrArg some ak)
 f212:=Tryz.func249.trans (congrArg some ak)
 f240:=Tryz.func274.trans (congrArg some ak)
 f241:=Tryz.func275.trans (congrArg some ak)
 f263:=Tryz.func272.trans (congrArg some ak)
 f264:=Tryz.func202.trans (congrArg some ak)
 f276:=Tryz.func285.trans (congrArg some ak)
 f277:=Tryz.func286.trans (congrArg some ak)
 t0:=Tryz.underlying0
 a0:=Tryz.isAgg0
 z0:=Tryz.sizeOf0
 v0:=Tryz.zeroValue0
 t3:=Tryz.underlying3
 a3:=Tryz.isAgg3
 z3:=Tryz.sizeOf3
 v3:=Tryz.zeroValue3
 t4:=Tryz.underlying4
 a4:=Tryz.isAgg4
 z4:=Tryz.sizeOf4
 v4:=Tryz.zeroValue4
 t5:=Tryz.underlying5
 a5:=Tryz.isAgg5
 z5:=Tryz.sizeOf5
 v5:=Tryz.zeroValue5
 t9:=Tryz.underlying9
 a9:=Tryz.isAgg9
 z9:=Tryz.sizeOf9
 v9:=Tryz.zeroValue9
 t20:=Tryz.underlying20
 a20:=Tryz.isAgg20
 z20:=Tryz.sizeOf20
 v20:=Tryz.zeroValue20
 t37:=Tryz.underlying221
 a37:=Tryz.isAgg221
 z37:=Tryz.sizeOf221
 v37:=Tryz.zeroValue221
 t46:=Tryz.underlying236
 a46:=Tryz.isAgg236
 z46:=Tryz.sizeOf236
 v46:=Tryz.zeroValue236
 t51:=Tryz.underlying272
 a51:=Tryz.isAgg272
 z51:=Tryz.sizeOf272
 v51:=Tryz.zeroValue272
 t53:=Tryz.underlying189
 a53:=Tryz.isAgg189
 z53:=Tryz.sizeOf189
 v53:=Tryz.zeroValue189
 t70:=Tryz.underlying306
 a70:=Tryz.isAgg306
 z70:=Tryz.sizeOf306
 v70:=Tryz.zeroValue306
 t72:=Tryz.underlying308
 a72:=Tryz.isAgg308
 z72:=Tryz.sizeOf308
 v72:=Tryz.zeroValue308
 t75:=Tryz.underlying311
 a75:=Tryz.isAgg311
 z75:=Tryz.sizeOf311
 v75:=Tryz.zeroValue311
 t76:=Tryz.underlying312
 a76:=Tryz.isAgg312
 z76:=Tryz.sizeOf312
 v76:=Tryz.zeroValue312
 t109:=Tryz.underlying303
 a109:=Tryz.isAgg303
 z109:=Tryz.sizeOf303
 v109:=Tryz.zeroValue303
 t127:=Tryz.underlying336
 a127:=Tryz.isAgg336
 z127:=Tryz.sizeOf336
 v127:=Tryz.zeroValue336
 t146:=Tryz.underlying334
 a146:=Tryz.isAgg334
 z146:=Tryz.sizeOf334
 v146:=Tryz.zeroValue334
 t148:=Tryz.underlying267
 a148:=Tryz.isAgg267
 z148:=Tryz.sizeOf267
 v148:=Tryz.zeroValue267
 t164:=Tryz.underlying346
 a164:=Tryz.isAgg346
 z164:=Tryz.sizeOf346
 v164:=Tryz.zeroValue346}
def Tryz.Builder_Extra_105:Builder.Extra Tryz.prog Tryz.lays105_ren:={
 sizeBuilder:=ak
 liesBuilder:=ak
 t5:=Tryz.underlying5
 a5:=Tryz.isAgg5
 z5:=Tryz.sizeOf5
 v5:=Tryz.zeroValue5
 infoByte:=ak
 cellsByte:=ak
 sizeByte:=ak
 neB5:=by decide}
open Go.RowKit Go.Lib in
def Tryz.strings_Repeat(s:ByteArray)(c:Nat)(w:World)(hc:c<=9223372036854775807)(hlen:s.size*c<=140737488355328):
 Calls Tryz.prog 231 #[.string s,.int .i64 c] w fun e w'=>e= .returned (.string ⟨(Lib.repeatL s.data.toList c).toArray⟩)∧Below w.heap.size w w':=Any.strings_Repeat Tryz.lays105 Tryz.Builder_Extra_105 s c w hc hlen
end Go.Proofs
namespace Go.Proofs
open Go.Shelf
def Tryz.sortEv_ren:Go.Shelf.Ren:=⟨fun|6=>192|14=>222|15=>223|20=>239|21=>240|22=>241|23=>242|24=>243|25=>244|26=>245|27=>246|28=>247|29=>226|46=>266|47=>267|48=>268|49=>269|50=>270|57=>284|n=>n,fun|0=>0|3=>3|4=>4|5=>5|9=>9|22=>249|24=>253|25=>255|39=>236|53=>272|55=>189|76=>343|66=>328|45=>297|46=>298|50=>139|77=>344|70=>332|n=>n,fun n=>n⟩
def Tryz.sortEv:SlLaysF0.n6 Tryz.prog Tryz.sortEv_ren where
 mixed:=ak
 f6:=⟨"slices.SortFunc[[]viator/period.event,viator/period.event]",ax,Tryz.func192.trans (congrArg some ak)⟩
 f14:=⟨"slices.pdqsortCmpFunc[viator/period.event]",ax,Tryz.func222.trans (congrArg some ak)⟩
 f15:=Tryz.func223.trans (congrArg some ak)
 f20:=⟨"slices.insertionSortCmpFunc[viator/period.event]",ax,Tryz.func239.trans (congrArg some ak)⟩
 f21:=⟨"slices.heapSortCmpFunc[viator/period.event]",ax,Tryz.func240.trans (congrArg some ak)⟩
 f22:=⟨"slices.breakPatternsCmpFunc[viator/period.event]",ax,Tryz.func241.trans (congrArg some ak)⟩
 f23:=⟨"slices.choosePivotCmpFunc[viator/period.event]",ax,Tryz.func242.trans (congrArg some ak)⟩
 f24:=⟨"slices.reverseRangeCmpFunc[viator/period.event]",ax,Tryz.func243.trans (congrArg some ak)⟩
 f25:=⟨"slices.partialInsertionSortCmpFunc[viator/period.event]",ax,Tryz.func244.trans (congrArg some ak)⟩
 f26:=⟨"slices.partitionEqualCmpFunc[viator/period.event]",ax,Tryz.func245.trans (congrArg some ak)⟩
 f27:=⟨"slices.partitionCmpFunc[viator/period.event]",ax,Tryz.func246.trans (congrArg some ak)⟩
 f28:=Tryz.func247.trans (congrArg some ak)
 f29:=Tryz.func226.trans (congrArg some ak)
 f46:=⟨"slices.siftDownCmpFunc[viator/period.event]",ax,Tryz.func266.trans (congrArg some ak)⟩
 f47:=Tryz.func267.trans (congrArg some ak)
 f48:=Tryz.func268.trans (congrArg some ak)
 f49:=⟨"slices.medianAdjacentCmpFunc[viator/period.event]",ax,Tryz.func269.trans (congrArg some ak)⟩
 f50:=⟨"slices.medianCmpFunc[viator/period.event]",ax,Tryz.func270.trans (congrArg some ak)⟩
 f57:=⟨"slices.order2CmpFunc[viator/period.event]",ax,Tryz.func284.trans (congrArg some ak)⟩
 t0:=Tryz.underlying0
 a0:=Tryz.isAgg0
 z0:=Tryz.sizeOf0
 v0:=Tryz.zeroValue0
 t3:=Tryz.underlying3
 a3:=Tryz.isAgg3
 z3:=Tryz.sizeOf3
 v3:=Tryz.zeroValue3
 t4:=Tryz.underlying4
 a4:=Tryz.isAgg4
 z4:=Tryz.sizeOf4
 v4:=Tryz.zeroValue4
 t5:=Tryz.underlying5
 a5:=Tryz.isAgg5
 z5:=Tryz.sizeOf5
 v5:=Tryz.zeroValue5
 t9:=Tryz.underlying9
 a9:=Tryz.isAgg9
 z9:=Tryz.sizeOf9
 v9:=Tryz.zeroValue9
 t22:=Tryz.underlying249
 a22:=Tryz.isAgg249
 z22:=Tryz.sizeOf249
 v22:=Tryz.zeroValue249
 t25:=Tryz.underlying255
 a25:=Tryz.isAgg255
 z25:=Tryz.sizeOf255
 v25:=Tryz.zeroValue255
 t39:=Tryz.underlying236
 a39:=Tryz.isAgg236
 z39:=Tryz.sizeOf236
 v39:=Tryz.zeroValue236
 t45:=Tryz.underlying297
 a45:=Tryz.isAgg297
 z45:=Tryz.sizeOf297
 v45:=Tryz.zeroValue297
 t46:=Tryz.underlying298
 a46:=Tryz.isAgg298
 z46:=Tryz.sizeOf298
 v46:=Tryz.zeroValue298
 t50:=Tryz.underlying139
 a50:=Tryz.isAgg139
 z50:=Tryz.sizeOf139
 v50:=Tryz.zeroValue139
 t53:=Tryz.underlying272
 a53:=Tryz.isAgg272
 z53:=Tryz.sizeOf272
 v53:=Tryz.zeroValue272
 t55:=Tryz.underlying189
 a55:=Tryz.isAgg189
 z55:=Tryz.sizeOf189
 v55:=Tryz.zeroValue189
 t66:=Tryz.underlying328
 a66:=Tryz.isAgg328
 z66:=Tryz.sizeOf328
 v66:=Tryz.zeroValue328
 t70:=Tryz.underlying332
 a70:=Tryz.isAgg332
 z70:=Tryz.sizeOf332
 v70:=Tryz.zeroValue332
 t76:=Tryz.underlying343
 a76:=Tryz.isAgg343
 z76:=Tryz.sizeOf343
 v76:=Tryz.zeroValue343
 t77:=Tryz.underlying344
 a77:=Tryz.isAgg344
 z77:=Tryz.sizeOf344
 v77:=Tryz.zeroValue344
def Tryz.insPU_ren:Go.Shelf.Ren:=⟨fun|15=>223|20=>264|28=>247|29=>226|47=>267|48=>268|n=>n,fun|0=>0|3=>3|4=>4|5=>5|9=>9|22=>148|24=>201|25=>280|n=>n,fun n=>n⟩
def Tryz.insPU:SlLaysF0.n20 Tryz.prog Tryz.insPU_ren where
 mixed:=ak
 f20:=⟨"slices.insertionSortCmpFunc[viator/pieces.Unit[viator/api.Line]]",ax,Tryz.func264.trans (congrArg some ak)⟩
 t0:=Tryz.underlying0
 a0:=Tryz.isAgg0
 z0:=Tryz.sizeOf0
 v0:=Tryz.zeroValue0
 t3:=Tryz.underlying3
 a3:=Tryz.isAgg3
 z3:=Tryz.sizeOf3
 v3:=Tryz.zeroValue3
 t4:=Tryz.underlying4
 a4:=Tryz.isAgg4
 z4:=Tryz.sizeOf4
 v4:=Tryz.zeroValue4
 t22:=Tryz.underlying148
 a22:=Tryz.isAgg148
 z22:=Tryz.sizeOf148
 v22:=Tryz.zeroValue148
 t25:=Tryz.underlying280
 a25:=Tryz.isAgg280
 z25:=Tryz.sizeOf280
 v25:=Tryz.zeroValue280
end Go.Proofs
