/-
  Part 5 (chapter 32): lemmas, walks. Each theorem states its own conditions.
-/
import Derived.Test.YtaffcpfhedadhaaGreatDoorProg
import Derived.Shelf.Strings.Builder1
import Derived.Shelf.Strings.Builder2
import Derived.Shelf.Small.Utf8
import Derived.Shelf.Small.Bits
import Derived.Shelf.Small.Strs
import Derived.Shelf.Small.Wraps
import Derived.Shelf.Strings.BuilderF
import Derived.Shelf.Strconv.Itoa0
import Derived.Shelf.Strings.Search1
import Derived.Shelf.Strings.Prefix
import Derived.Shelf.Strings.Runes
import Derived.Shelf.Strings.AsciiSet
import Derived.Shelf.Bits.Mul64
import Derived.Shelf.Strings.Repeat
import Derived.Shelf.Unicode.DecodeSlow
import Derived.Laws.Externs
import Derived.Lib.ItoaNum
import Derived.Lib.AppendStr
import Derived.Lib.UnsafeStr
import Derived.Lib.Builder
import Derived.Laws.Concat
import Derived.Laws.Strings2
import Derived.Lib.OthersKept
import Derived.Test.YtaffcpfhedadhaaGreatDoorA02
import Derived.Test.YtaffcpfhedadhaaGreatDoorA03
import Derived.Test.YtaffcpfhedadhaaGreatDoorA04
set_option linter.all false
set_option maxRecDepth 20000
set_option maxHeartbeats 20000000
namespace Go.Proofs.YtaffcpfhedadhaaGreatDoor
open Go Go.RowKit Go.Via
def mixed:Tryz.prog.follows .mixedOrders=true:=by kernel_rfl
def sV:dU Tryz.prog 3 ⟨false,1,[]⟩=true:=by kernel_rfl
def ti4:dU Tryz.prog 4 ⟨false,1,[]⟩=true:=by kernel_rfl
def YZ:dU Tryz.prog 5 ⟨false,1,[]⟩=true:=by kernel_rfl
def xQ:dU Tryz.prog 34 ⟨true,2,[(0,1),(1,1)]⟩=true:=by kernel_rfl
def BD:dU Tryz.prog 36 ⟨true,4,[(0,2),(2,2)]⟩=true:=by kernel_rfl
def wL:dU Tryz.prog 38 ⟨true,9,[(0,4),(4,4),(8,1)]⟩=true:=by kernel_rfl
def qiJ:dU Tryz.prog 40 ⟨true,10,[(0,1),(1,9)]⟩=true:=by kernel_rfl
def qiK:dU Tryz.prog 48 ⟨true,5,[(0,1),(1,1),(2,1),(3,1),(4,1)]⟩=true:=by kernel_rfl
def lL:dU Tryz.prog 61 ⟨true,20,[(0,9),(9,9),(18,1),(19,1)]⟩=true:=by kernel_rfl
def Qv:dU Tryz.prog 63 ⟨true,38,[(0,20),(20,9),(29,9)]⟩=true:=by kernel_rfl
def qiL:dU Tryz.prog 74 ⟨false,1,[]⟩=true:=by kernel_rfl
def qgq:dU Tryz.prog 86 ⟨true,4,[(0,1),(1,1),(2,1),(3,1)]⟩=true:=by kernel_rfl
def XR:dU Tryz.prog 91 ⟨true,12,[(0,4),(4,4),(8,4)]⟩=true:=by kernel_rfl
def Ll:dU Tryz.prog 93 ⟨true,32,[(0,20),(20,12)]⟩=true:=by kernel_rfl
def CE:dU Tryz.prog 98 ⟨true,16,[(0,4),(4,4),(8,4),(12,4)]⟩=true:=by kernel_rfl
def GK:dU Tryz.prog 100 ⟨true,36,[(0,20),(20,16)]⟩=true:=by kernel_rfl
def qfw:dU Tryz.prog 120 ⟨true,3,[(0,1),(1,1),(2,1)]⟩=true:=by kernel_rfl
def qfx:dU Tryz.prog 151 ⟨true,52,[(0,20),(20,16),(36,16)]⟩=true:=by kernel_rfl
def ZU:dU Tryz.prog 181 ⟨true,21,[(0,20),(20,1)]⟩=true:=by kernel_rfl
def jh:dU Tryz.prog 201 ⟨true,36,[(0,20),(20,16)]⟩=true:=by kernel_rfl
def qiM:dU Tryz.prog 209 ⟨true,10,[(0,9),(9,1)]⟩=true:=by kernel_rfl
def ZV:dU Tryz.prog 253 ⟨true,12,[(0,10),(10,2)]⟩=true:=by kernel_rfl
def VL:dU Tryz.prog 272 ⟨false,1,[]⟩=true:=by kernel_rfl
def z3:(Tryz.prog.info? 3).bind (·.zero)=some (.int .i64 0):=by kernel_rfl
def z24:(Tryz.prog.info? 24).bind (·.zero)=some (.agg #[.int .u8 0,.int .u8 0,.int .u8 0,.slice none 0 0]):=by kernel_rfl
def wM:(Tryz.prog.info? 34).bind (·.zero)=some (.agg #[aU,aV]):=by kernel_rfl
def pM:(Tryz.prog.info? 36).bind (·.zero)=some (.agg #[aU,aV,aU,aV]):=by kernel_rfl
def MC:(Tryz.prog.info? 38).bind (·.zero)=some (.agg #[aU,aV,aU,aV,aU,aV,aU,aV,.bool false]):=by kernel_rfl
def z40:(Tryz.prog.info? 40).bind (·.zero)=some (.agg #[.slice none 0 0,aU,aV,aU,aV,aU,aV,aU,aV,.bool false]):=by kernel_rfl
def z61:(Tryz.prog.info? 61).bind (·.zero)=some (.agg #[aU,aV,aU,aV,aU,aV,aU,aV,.bool false,aU,aV,aU,aV,aU,aV,aU,aV,.bool false,.bool false,.bool false]):=by kernel_rfl
def z63:(Tryz.prog.info? 63).bind (·.zero)=some (.agg #[aU,aV,aU,aV,aU,aV,aU,aV,.bool false,aU,aV,aU,aV,aU,aV,aU,aV,.bool false,.bool false,.bool false,aU,aV,aU,aV,aU,aV,aU,aV,.bool false,aU,aV,aU,aV,aU,aV,aU,aV,.bool false]):=by kernel_rfl
def z86:(Tryz.prog.info? 86).bind (·.zero)=some (.agg #[.int .u8 0,.int .u8 0,.int .u8 0,.int .u8 0]):=by kernel_rfl
def Hq:(Tryz.prog.info? 91).bind (·.zero)=some (.agg #[aU,aV,aU,aV,aU,aV,aU,aV,aU,aV,aU,aV]):=by kernel_rfl
def z93:(Tryz.prog.info? 93).bind (·.zero)=some (.agg #[aU,aV,aU,aV,aU,aV,aU,aV,.bool false,aU,aV,aU,aV,aU,aV,aU,aV,.bool false,.bool false,.bool false,aU,aV,aU,aV,aU,aV,aU,aV,aU,aV,aU,aV]):=by kernel_rfl
def z98:(Tryz.prog.info? 98).bind (·.zero)=some (.agg #[aU,aV,aU,aV,aU,aV,aU,aV,aU,aV,aU,aV,aU,aV,aU,aV]):=by kernel_rfl
def qkw:(Tryz.prog.info? 100).bind (·.zero)=some (.agg #[aU,aV,aU,aV,aU,aV,aU,aV,.bool false,aU,aV,aU,aV,aU,aV,aU,aV,.bool false,.bool false,.bool false,aU,aV,aU,aV,aU,aV,aU,aV,aU,aV,aU,aV,aU,aV,aU,aV]):=by kernel_rfl
def XU:(Tryz.prog.info? 120).bind (·.zero)=some (.agg #[.bool false,.slice none 0 0,.slice none 0 0]):=by kernel_rfl
def qkx:(Tryz.prog.info? 130).bind (·.zero)=some (.agg #[.bool false,.bool false,.bool false]):=by kernel_rfl
def qde:(Tryz.prog.info? 137).bind (·.zero)=some (.agg #[aU,aV,aU,aV,aU,aV,aU,aV,aU,aV,aU,aV]):=by kernel_rfl
def z148:(Tryz.prog.info? 148).bind (·.zero)=some (.slice none 0 0):=by kernel_rfl
def qky:(Tryz.prog.info? 151).bind (·.zero)=some (.agg #[aU,aV,aU,aV,aU,aV,aU,aV,.bool false,aU,aV,aU,aV,aU,aV,aU,aV,.bool false,.bool false,.bool false,aU,aV,aU,aV,aU,aV,aU,aV,aU,aV,aU,aV,aU,aV,aU,aV,aU,aV,aU,aV,aU,aV,aU,aV,aU,aV,aU,aV,aU,aV,aU,aV]):=by kernel_rfl
def qkz:(Tryz.prog.info? 174).bind (·.zero)=some (.agg #[aU,aV,aU,aV,aU,aV,aU,aV,aU,aV,aU,aV]):=by kernel_rfl
def qiO:(Tryz.prog.info? 181).bind (·.zero)=some (.agg #[aU,aV,aU,aV,aU,aV,aU,aV,.bool false,aU,aV,aU,aV,aU,aV,aU,aV,.bool false,.bool false,.bool false,.int .i64 0]):=by kernel_rfl
def qiP:(Tryz.prog.info? 201).bind (·.zero)=some (.agg #[aU,aV,aU,aV,aU,aV,aU,aV,.bool false,aU,aV,aU,aV,aU,aV,aU,aV,.bool false,.bool false,.bool false,aU,aV,aU,aV,aU,aV,aU,aV,aU,aV,aU,aV,aU,aV,aU,aV]):=by kernel_rfl
def qgr:(Tryz.prog.info? 209).bind (·.zero)=some (.agg #[aU,aV,aU,aV,aU,aV,aU,aV,.bool false,.bool false]):=by kernel_rfl
def qkA:(Tryz.prog.info? 251).bind (·.zero)=some (.agg #[.int .i64 0,.int .i64 0]):=by kernel_rfl
def ZW:(Tryz.prog.info? 253).bind (·.zero)=some (.agg #[aU,aV,aU,aV,aU,aV,aU,aV,.bool false,.bool false,.int .i64 0,.int .i64 0]):=by kernel_rfl
def qkB:(Tryz.prog.info? 286).bind (·.zero)=some (.agg #[.int .u8 0,.int .u8 0,.int .u8 0,.int .u8 0,.int .u8 0,.int .u8 0,.int .u8 0,.int .u8 0]):=by kernel_rfl
def FM(w:World):(Instr.build 34 [].toArray).run Tryz.prog w= .ok (.agg #[aU,aV]) w:=by kernel_rfl
def Ou{a0:Bool}{b0:ByteArray}(w:World):(Instr.build 34 [(0,.bool a0),(1,.string b0)].toArray).run Tryz.prog w= .ok (.agg #[.bool a0,.string b0]) w:=by kernel_rfl
def xR(w:World):(Instr.build 36 [].toArray).run Tryz.prog w= .ok (.agg #[aU,aV,aU,aV]) w:=by kernel_rfl
def qgs{a0:Bool}{a1:ByteArray}(w:World):(Instr.build 36 [(0,.agg #[.bool a0,.string a1])].toArray).run Tryz.prog w= .ok (.agg #[.bool a0,.string a1,aU,aV]) w:=by kernel_rfl
def zq{a0:Bool}{a1:ByteArray}{b0:Bool}{b1:ByteArray}(w:World):(Instr.build 36 [(0,.agg #[.bool a0,.string a1]),(1,.agg #[.bool b0,.string b1])].toArray).run Tryz.prog w= .ok (.agg #[.bool a0,.string a1,.bool b0,.string b1]) w:=by kernel_rfl
def qgt(w:World):(Instr.build 38 [].toArray).run Tryz.prog w= .ok (.agg #[aU,aV,aU,aV,aU,aV,aU,aV,.bool false]) w:=by kernel_rfl
def zu{a0:Bool}{a1:ByteArray}{a2:Bool}{a3:ByteArray}(w:World):(Instr.build 38 [(0,.agg #[.bool a0,.string a1,.bool a2,.string a3])].toArray).run Tryz.prog w= .ok (.agg #[.bool a0,.string a1,.bool a2,.string a3,aU,aV,aU,aV,.bool false]) w:=by kernel_rfl
def Ov{a0:Bool}{a1:ByteArray}{a2:Bool}{a3:ByteArray}{b0:Bool}{b1:ByteArray}{b2:Bool}{b3:ByteArray}{c0:Bool}(w:World):(Instr.build 38 [(0,.agg #[.bool a0,.string a1,.bool a2,.string a3]),(1,.agg #[.bool b0,.string b1,.bool b2,.string b3]),(2,.bool c0)].toArray).run Tryz.prog w= .ok (.agg #[.bool a0,.string a1,.bool a2,.string a3,.bool b0,.string b1,.bool b2,.string b3,.bool c0]) w:=by kernel_rfl
def Ox{a0:Bool}{a1:ByteArray}{a2:Bool}{a3:ByteArray}{a4:Bool}{a5:ByteArray}{a6:Bool}{a7:ByteArray}{a8:Bool}{b0:Bool}{b1:ByteArray}{b2:Bool}{b3:ByteArray}{b4:Bool}{b5:ByteArray}{b6:Bool}{b7:ByteArray}{b8:Bool}(w:World):(Instr.build 61 [(0,.agg #[.bool a0,.string a1,.bool a2,.string a3,.bool a4,.string a5,.bool a6,.string a7,.bool a8]),(1,.agg #[.bool b0,.string b1,.bool b2,.string b3,.bool b4,.string b5,.bool b6,.string b7,.bool b8])].toArray).run Tryz.prog w= .ok (.agg #[.bool a0,.string a1,.bool a2,.string a3,.bool a4,.string a5,.bool a6,.string a7,.bool a8,.bool b0,.string b1,.bool b2,.string b3,.bool b4,.string b5,.bool b6,.string b7,.bool b8,.bool false,.bool false]) w:=by kernel_rfl
def Ud{a0:Bool}{a1:ByteArray}{a2:Bool}{a3:ByteArray}{a4:Bool}{a5:ByteArray}{a6:Bool}{a7:ByteArray}{a8:Bool}{b0:Bool}{b1:ByteArray}{b2:Bool}{b3:ByteArray}{b4:Bool}{b5:ByteArray}{b6:Bool}{b7:ByteArray}{b8:Bool}{c0:Bool}(w:World):(Instr.build 61 [(0,.agg #[.bool a0,.string a1,.bool a2,.string a3,.bool a4,.string a5,.bool a6,.string a7,.bool a8]),(1,.agg #[.bool b0,.string b1,.bool b2,.string b3,.bool b4,.string b5,.bool b6,.string b7,.bool b8]),(2,.bool c0)].toArray).run Tryz.prog w= .ok (.agg #[.bool a0,.string a1,.bool a2,.string a3,.bool a4,.string a5,.bool a6,.string a7,.bool a8,.bool b0,.string b1,.bool b2,.string b3,.bool b4,.string b5,.bool b6,.string b7,.bool b8,.bool c0,.bool false]) w:=by kernel_rfl
def Oy{a0:Bool}{a1:ByteArray}{a2:Bool}{a3:ByteArray}{a4:Bool}{a5:ByteArray}{a6:Bool}{a7:ByteArray}{a8:Bool}{b0:Bool}{b1:ByteArray}{b2:Bool}{b3:ByteArray}{b4:Bool}{b5:ByteArray}{b6:Bool}{b7:ByteArray}{b8:Bool}{c0:Bool}{d0:Bool}(w:World):(Instr.build 61 [(0,.agg #[.bool a0,.string a1,.bool a2,.string a3,.bool a4,.string a5,.bool a6,.string a7,.bool a8]),(1,.agg #[.bool b0,.string b1,.bool b2,.string b3,.bool b4,.string b5,.bool b6,.string b7,.bool b8]),(2,.bool c0),(3,.bool d0)].toArray).run Tryz.prog w= .ok (.agg #[.bool a0,.string a1,.bool a2,.string a3,.bool a4,.string a5,.bool a6,.string a7,.bool a8,.bool b0,.string b1,.bool b2,.string b3,.bool b4,.string b5,.bool b6,.string b7,.bool b8,.bool c0,.bool d0]) w:=by kernel_rfl
def Oz{a0:Bool}{a1:ByteArray}{a2:Bool}{a3:ByteArray}{a4:Bool}{a5:ByteArray}{a6:Bool}{a7:ByteArray}{a8:Bool}(w:World):(Instr.build 61 [(1,.agg #[.bool a0,.string a1,.bool a2,.string a3,.bool a4,.string a5,.bool a6,.string a7,.bool a8])].toArray).run Tryz.prog w= .ok (.agg #[aU,aV,aU,aV,aU,aV,aU,aV,.bool false,.bool a0,.string a1,.bool a2,.string a3,.bool a4,.string a5,.bool a6,.string a7,.bool a8,.bool false,.bool false]) w:=by kernel_rfl
def Qw{a0:Bool}{a1:ByteArray}{a2:Bool}{a3:ByteArray}{a4:Bool}{a5:ByteArray}{a6:Bool}{a7:ByteArray}{a8:Bool}{b0:Bool}{c0:Bool}(w:World):(Instr.build 61 [(1,.agg #[.bool a0,.string a1,.bool a2,.string a3,.bool a4,.string a5,.bool a6,.string a7,.bool a8]),(2,.bool b0),(3,.bool c0)].toArray).run Tryz.prog w= .ok (.agg #[aU,aV,aU,aV,aU,aV,aU,aV,.bool false,.bool a0,.string a1,.bool a2,.string a3,.bool a4,.string a5,.bool a6,.string a7,.bool a8,.bool b0,.bool c0]) w:=by kernel_rfl
def ZX{a0:Bool}{a1:ByteArray}{a2:Bool}{a3:ByteArray}{a4:Bool}{a5:ByteArray}{a6:Bool}{a7:ByteArray}{a8:Bool}{a9:Bool}{a10:ByteArray}{a11:Bool}{a12:ByteArray}{a13:Bool}{a14:ByteArray}{a15:Bool}{a16:ByteArray}{a17:Bool}{a18:Bool}{a19:Bool}{b0:Bool}{b1:ByteArray}{b2:Bool}{b3:ByteArray}{b4:Bool}{b5:ByteArray}{b6:Bool}{b7:ByteArray}{b8:Bool}{c0:Bool}{c1:ByteArray}{c2:Bool}{c3:ByteArray}{c4:Bool}{c5:ByteArray}{c6:Bool}{c7:ByteArray}{c8:Bool}(w:World):(Instr.build 63 [(0,.agg #[.bool a0,.string a1,.bool a2,.string a3,.bool a4,.string a5,.bool a6,.string a7,.bool a8,.bool a9,.string a10,.bool a11,.string a12,.bool a13,.string a14,.bool a15,.string a16,.bool a17,.bool a18,.bool a19]),(1,.agg #[.bool b0,.string b1,.bool b2,.string b3,.bool b4,.string b5,.bool b6,.string b7,.bool b8]),(2,.agg #[.bool c0,.string c1,.bool c2,.string c3,.bool c4,.string c5,.bool c6,.string c7,.bool c8])].toArray).run Tryz.prog w= .ok (.agg #[.bool a0,.string a1,.bool a2,.string a3,.bool a4,.string a5,.bool a6,.string a7,.bool a8,.bool a9,.string a10,.bool a11,.string a12,.bool a13,.string a14,.bool a15,.string a16,.bool a17,.bool a18,.bool a19,.bool b0,.string b1,.bool b2,.string b3,.bool b4,.string b5,.bool b6,.string b7,.bool b8,.bool c0,.string c1,.bool c2,.string c3,.bool c4,.string c5,.bool c6,.string c7,.bool c8]) w:=by kernel_rfl
def qgu(w:World):(Instr.build 91 [].toArray).run Tryz.prog w= .ok (.agg #[aU,aV,aU,aV,aU,aV,aU,aV,aU,aV,aU,aV]) w:=by kernel_rfl
def ZY{a0:Bool}{a1:ByteArray}{a2:Bool}{a3:ByteArray}(w:World):(Instr.build 91 [(0,.agg #[.bool a0,.string a1,.bool a2,.string a3])].toArray).run Tryz.prog w= .ok (.agg #[.bool a0,.string a1,.bool a2,.string a3,aU,aV,aU,aV,aU,aV,aU,aV]) w:=by kernel_rfl
def ZZ{a0:Bool}{a1:ByteArray}{a2:Bool}{a3:ByteArray}{b0:Bool}{b1:ByteArray}{b2:Bool}{b3:ByteArray}(w:World):(Instr.build 91 [(0,.agg #[.bool a0,.string a1,.bool a2,.string a3]),(1,.agg #[.bool b0,.string b1,.bool b2,.string b3])].toArray).run Tryz.prog w= .ok (.agg #[.bool a0,.string a1,.bool a2,.string a3,.bool b0,.string b1,.bool b2,.string b3,aU,aV,aU,aV]) w:=by kernel_rfl
def FN{a0:Bool}{a1:ByteArray}{a2:Bool}{a3:ByteArray}{b0:Bool}{b1:ByteArray}{b2:Bool}{b3:ByteArray}{c0:Bool}{c1:ByteArray}{c2:Bool}{c3:ByteArray}(w:World):(Instr.build 91 [(0,.agg #[.bool a0,.string a1,.bool a2,.string a3]),(1,.agg #[.bool b0,.string b1,.bool b2,.string b3]),(2,.agg #[.bool c0,.string c1,.bool c2,.string c3])].toArray).run Tryz.prog w= .ok (.agg #[.bool a0,.string a1,.bool a2,.string a3,.bool b0,.string b1,.bool b2,.string b3,.bool c0,.string c1,.bool c2,.string c3]) w:=by kernel_rfl
def qgv{a0:Bool}{a1:ByteArray}{a2:Bool}{a3:ByteArray}{a4:Bool}{a5:ByteArray}{a6:Bool}{a7:ByteArray}{a8:Bool}{a9:Bool}{a10:ByteArray}{a11:Bool}{a12:ByteArray}{a13:Bool}{a14:ByteArray}{a15:Bool}{a16:ByteArray}{a17:Bool}{a18:Bool}{a19:Bool}{b0:Bool}{b1:ByteArray}{b2:Bool}{b3:ByteArray}{b4:Bool}{b5:ByteArray}{b6:Bool}{b7:ByteArray}{b8:Bool}{b9:ByteArray}{b10:Bool}{b11:ByteArray}(w:World):(Instr.build 93 [(0,.agg #[.bool a0,.string a1,.bool a2,.string a3,.bool a4,.string a5,.bool a6,.string a7,.bool a8,.bool a9,.string a10,.bool a11,.string a12,.bool a13,.string a14,.bool a15,.string a16,.bool a17,.bool a18,.bool a19]),(1,.agg #[.bool b0,.string b1,.bool b2,.string b3,.bool b4,.string b5,.bool b6,.string b7,.bool b8,.string b9,.bool b10,.string b11])].toArray).run Tryz.prog w= .ok (.agg #[.bool a0,.string a1,.bool a2,.string a3,.bool a4,.string a5,.bool a6,.string a7,.bool a8,.bool a9,.string a10,.bool a11,.string a12,.bool a13,.string a14,.bool a15,.string a16,.bool a17,.bool a18,.bool a19,.bool b0,.string b1,.bool b2,.string b3,.bool b4,.string b5,.bool b6,.string b7,.bool b8,.string b9,.bool b10,.string b11]) w:=by kernel_rfl
def qgw{a0:Bool}{a1:ByteArray}{a2:Bool}{a3:ByteArray}{b0:Bool}{b1:ByteArray}{b2:Bool}{b3:ByteArray}{c0:Bool}{c1:ByteArray}{c2:Bool}{c3:ByteArray}(w:World):(Instr.build 98 [(0,.agg #[.bool a0,.string a1,.bool a2,.string a3]),(1,.agg #[.bool b0,.string b1,.bool b2,.string b3]),(2,.agg #[.bool c0,.string c1,.bool c2,.string c3])].toArray).run Tryz.prog w= .ok (.agg #[.bool a0,.string a1,.bool a2,.string a3,.bool b0,.string b1,.bool b2,.string b3,.bool c0,.string c1,.bool c2,.string c3,aU,aV,aU,aV]) w:=by kernel_rfl
def Z4{a0:Bool}{a1:ByteArray}{a2:Bool}{a3:ByteArray}{b0:Bool}{b1:ByteArray}{b2:Bool}{b3:ByteArray}{c0:Bool}{c1:ByteArray}{c2:Bool}{c3:ByteArray}{d0:Bool}{d1:ByteArray}{d2:Bool}{d3:ByteArray}(w:World):(Instr.build 98 [(0,.agg #[.bool a0,.string a1,.bool a2,.string a3]),(1,.agg #[.bool b0,.string b1,.bool b2,.string b3]),(2,.agg #[.bool c0,.string c1,.bool c2,.string c3]),(3,.agg #[.bool d0,.string d1,.bool d2,.string d3])].toArray).run Tryz.prog w= .ok (.agg #[.bool a0,.string a1,.bool a2,.string a3,.bool b0,.string b1,.bool b2,.string b3,.bool c0,.string c1,.bool c2,.string c3,.bool d0,.string d1,.bool d2,.string d3]) w:=by kernel_rfl
def XV{a0:Bool}{a1:ByteArray}{a2:Bool}{a3:ByteArray}{b0:Bool}{b1:ByteArray}{b2:Bool}{b3:ByteArray}(w:World):(Instr.build 98 [(0,.agg #[.bool a0,.string a1,.bool a2,.string a3]),(2,.agg #[.bool b0,.string b1,.bool b2,.string b3])].toArray).run Tryz.prog w= .ok (.agg #[.bool a0,.string a1,.bool a2,.string a3,aU,aV,aU,aV,.bool b0,.string b1,.bool b2,.string b3,aU,aV,aU,aV]) w:=by kernel_rfl
def qdf{a0:Bool}{a1:ByteArray}{a2:Bool}{a3:ByteArray}(w:World):(Instr.build 98 [(1,.agg #[.bool a0,.string a1,.bool a2,.string a3])].toArray).run Tryz.prog w= .ok (.agg #[aU,aV,aU,aV,.bool a0,.string a1,.bool a2,.string a3,aU,aV,aU,aV,aU,aV,aU,aV]) w:=by kernel_rfl
def qdg{a0:Bool}{a1:ByteArray}{a2:Bool}{a3:ByteArray}(w:World):(Instr.build 98 [(2,.agg #[.bool a0,.string a1,.bool a2,.string a3])].toArray).run Tryz.prog w= .ok (.agg #[aU,aV,aU,aV,aU,aV,aU,aV,.bool a0,.string a1,.bool a2,.string a3,aU,aV,aU,aV]) w:=by kernel_rfl
def qI{a0:Bool}{a1:ByteArray}{a2:Bool}{a3:ByteArray}{a4:Bool}{a5:ByteArray}{a6:Bool}{a7:ByteArray}{a8:Bool}{a9:Bool}{a10:ByteArray}{a11:Bool}{a12:ByteArray}{a13:Bool}{a14:ByteArray}{a15:Bool}{a16:ByteArray}{a17:Bool}{a18:Bool}{a19:Bool}{b0:Bool}{b1:ByteArray}{b2:Bool}{b3:ByteArray}{b4:Bool}{b5:ByteArray}{b6:Bool}{b7:ByteArray}{b8:Bool}{b9:ByteArray}{b10:Bool}{b11:ByteArray}{b12:Bool}{b13:ByteArray}{b14:Bool}{b15:ByteArray}(w:World):(Instr.build 100 [(0,.agg #[.bool a0,.string a1,.bool a2,.string a3,.bool a4,.string a5,.bool a6,.string a7,.bool a8,.bool a9,.string a10,.bool a11,.string a12,.bool a13,.string a14,.bool a15,.string a16,.bool a17,.bool a18,.bool a19]),(1,.agg #[.bool b0,.string b1,.bool b2,.string b3,.bool b4,.string b5,.bool b6,.string b7,.bool b8,.string b9,.bool b10,.string b11,.bool b12,.string b13,.bool b14,.string b15])].toArray).run Tryz.prog w= .ok (.agg #[.bool a0,.string a1,.bool a2,.string a3,.bool a4,.string a5,.bool a6,.string a7,.bool a8,.bool a9,.string a10,.bool a11,.string a12,.bool a13,.string a14,.bool a15,.string a16,.bool a17,.bool a18,.bool a19,.bool b0,.string b1,.bool b2,.string b3,.bool b4,.string b5,.bool b6,.string b7,.bool b8,.string b9,.bool b10,.string b11,.bool b12,.string b13,.bool b14,.string b15]) w:=by kernel_rfl
def uQ{a0:Bool}{b0:Option Addr}{b0n b0c:Nat}{c0:Option Addr}{c0n c0c:Nat}(w:World):(Instr.build 120 [(0,.bool a0),(1,.slice b0 b0n b0c),(2,.slice c0 c0n c0c)].toArray).run Tryz.prog w= .ok (.agg #[.bool a0,.slice b0 b0n b0c,.slice c0 c0n c0c]) w:=by kernel_rfl
def qdh{a0:Bool}{b0:Bool}{c0:Bool}(w:World):(Instr.build 130 [(0,.bool a0),(1,.bool b0),(2,.bool c0)].toArray).run Tryz.prog w= .ok (.agg #[.bool a0,.bool b0,.bool c0]) w:=by kernel_rfl
def qdi{a0:Bool}{a1:ByteArray}{a2:Bool}{a3:ByteArray}{b0:Bool}{b1:ByteArray}{b2:Bool}{b3:ByteArray}(w:World):(Instr.build 135 [(0,.agg #[.bool a0,.string a1,.bool a2,.string a3]),(1,.agg #[.bool b0,.string b1,.bool b2,.string b3])].toArray).run Tryz.prog w= .ok (.agg #[.bool a0,.string a1,.bool a2,.string a3,.bool b0,.string b1,.bool b2,.string b3]) w:=by kernel_rfl
def qdj{a0:Bool}{a1:ByteArray}{a2:Bool}{a3:ByteArray}{b0:Bool}{b1:ByteArray}{b2:Bool}{b3:ByteArray}{b4:Bool}{b5:ByteArray}{b6:Bool}{b7:ByteArray}(w:World):(Instr.build 137 [(0,.agg #[.bool a0,.string a1,.bool a2,.string a3]),(1,.agg #[.bool b0,.string b1,.bool b2,.string b3,.bool b4,.string b5,.bool b6,.string b7])].toArray).run Tryz.prog w= .ok (.agg #[.bool a0,.string a1,.bool a2,.string a3,.bool b0,.string b1,.bool b2,.string b3,.bool b4,.string b5,.bool b6,.string b7]) w:=by kernel_rfl
def qdk{a0:Bool}{a1:ByteArray}{a2:Bool}{a3:ByteArray}{a4:Bool}{a5:ByteArray}{a6:Bool}{a7:ByteArray}{a8:Bool}{a9:Bool}{a10:ByteArray}{a11:Bool}{a12:ByteArray}{a13:Bool}{a14:ByteArray}{a15:Bool}{a16:ByteArray}{a17:Bool}{a18:Bool}{a19:Bool}{b0:Bool}{b1:ByteArray}{b2:Bool}{b3:ByteArray}{b4:Bool}{b5:ByteArray}{b6:Bool}{b7:ByteArray}{b8:Bool}{b9:ByteArray}{b10:Bool}{b11:ByteArray}{b12:Bool}{b13:ByteArray}{b14:Bool}{b15:ByteArray}{c0:Bool}{c1:ByteArray}{c2:Bool}{c3:ByteArray}{c4:Bool}{c5:ByteArray}{c6:Bool}{c7:ByteArray}{c8:Bool}{c9:ByteArray}{c10:Bool}{c11:ByteArray}{c12:Bool}{c13:ByteArray}{c14:Bool}{c15:ByteArray}(w:World):(Instr.build 151 [(0,.agg #[.bool a0,.string a1,.bool a2,.string a3,.bool a4,.string a5,.bool a6,.string a7,.bool a8,.bool a9,.string a10,.bool a11,.string a12,.bool a13,.string a14,.bool a15,.string a16,.bool a17,.bool a18,.bool a19]),(1,.agg #[.bool b0,.string b1,.bool b2,.string b3,.bool b4,.string b5,.bool b6,.string b7,.bool b8,.string b9,.bool b10,.string b11,.bool b12,.string b13,.bool b14,.string b15]),(2,.agg #[.bool c0,.string c1,.bool c2,.string c3,.bool c4,.string c5,.bool c6,.string c7,.bool c8,.string c9,.bool c10,.string c11,.bool c12,.string c13,.bool c14,.string c15])].toArray).run Tryz.prog w= .ok (.agg #[.bool a0,.string a1,.bool a2,.string a3,.bool a4,.string a5,.bool a6,.string a7,.bool a8,.bool a9,.string a10,.bool a11,.string a12,.bool a13,.string a14,.bool a15,.string a16,.bool a17,.bool a18,.bool a19,.bool b0,.string b1,.bool b2,.string b3,.bool b4,.string b5,.bool b6,.string b7,.bool b8,.string b9,.bool b10,.string b11,.bool b12,.string b13,.bool b14,.string b15,.bool c0,.string c1,.bool c2,.string c3,.bool c4,.string c5,.bool c6,.string c7,.bool c8,.string c9,.bool c10,.string c11,.bool c12,.string c13,.bool c14,.string c15]) w:=by kernel_rfl
def qdl{a0:Bool}{a1:ByteArray}{a2:Bool}{a3:ByteArray}{b0:Bool}{b1:ByteArray}{b2:Bool}{b3:ByteArray}{c0:Bool}{c1:ByteArray}{c2:Bool}{c3:ByteArray}(w:World):(Instr.build 174 [(0,.agg #[.bool a0,.string a1,.bool a2,.string a3]),(1,.agg #[.bool b0,.string b1,.bool b2,.string b3]),(2,.agg #[.bool c0,.string c1,.bool c2,.string c3])].toArray).run Tryz.prog w= .ok (.agg #[.bool a0,.string a1,.bool a2,.string a3,.bool b0,.string b1,.bool b2,.string b3,.bool c0,.string c1,.bool c2,.string c3]) w:=by kernel_rfl
def VM{a0:Bool}{a1:ByteArray}{a2:Bool}{a3:ByteArray}{a4:Bool}{a5:ByteArray}{a6:Bool}{a7:ByteArray}{a8:Bool}{a9:Bool}{a10:ByteArray}{a11:Bool}{a12:ByteArray}{a13:Bool}{a14:ByteArray}{a15:Bool}{a16:ByteArray}{a17:Bool}{a18:Bool}{a19:Bool}(w:World):(Instr.build 181 [(0,.agg #[.bool a0,.string a1,.bool a2,.string a3,.bool a4,.string a5,.bool a6,.string a7,.bool a8,.bool a9,.string a10,.bool a11,.string a12,.bool a13,.string a14,.bool a15,.string a16,.bool a17,.bool a18,.bool a19])].toArray).run Tryz.prog w= .ok (.agg #[.bool a0,.string a1,.bool a2,.string a3,.bool a4,.string a5,.bool a6,.string a7,.bool a8,.bool a9,.string a10,.bool a11,.string a12,.bool a13,.string a14,.bool a15,.string a16,.bool a17,.bool a18,.bool a19,.int .i64 0]) w:=by kernel_rfl
def qdm{a0:Bool}{a1:ByteArray}{a2:Bool}{a3:ByteArray}{a4:Bool}{a5:ByteArray}{a6:Bool}{a7:ByteArray}{a8:Bool}{a9:Bool}{a10:ByteArray}{a11:Bool}{a12:ByteArray}{a13:Bool}{a14:ByteArray}{a15:Bool}{a16:ByteArray}{a17:Bool}{a18:Bool}{a19:Bool}{b0:Int}(w:World):(Instr.build 181 [(0,.agg #[.bool a0,.string a1,.bool a2,.string a3,.bool a4,.string a5,.bool a6,.string a7,.bool a8,.bool a9,.string a10,.bool a11,.string a12,.bool a13,.string a14,.bool a15,.string a16,.bool a17,.bool a18,.bool a19]),(1,.int .i64 b0)].toArray).run Tryz.prog w= .ok (.agg #[.bool a0,.string a1,.bool a2,.string a3,.bool a4,.string a5,.bool a6,.string a7,.bool a8,.bool a9,.string a10,.bool a11,.string a12,.bool a13,.string a14,.bool a15,.string a16,.bool a17,.bool a18,.bool a19,.int .i64 b0]) w:=by kernel_rfl
def qdn(w:World):(Instr.build 197 [].toArray).run Tryz.prog w= .ok (.agg #[]) w:=by kernel_rfl
def D6{a0:Bool}{a1:ByteArray}{a2:Bool}{a3:ByteArray}{a4:Bool}{a5:ByteArray}{a6:Bool}{a7:ByteArray}{a8:Bool}{a9:Bool}{a10:ByteArray}{a11:Bool}{a12:ByteArray}{a13:Bool}{a14:ByteArray}{a15:Bool}{a16:ByteArray}{a17:Bool}{a18:Bool}{a19:Bool}{b0:Bool}{b1:ByteArray}{b2:Bool}{b3:ByteArray}{b4:Bool}{b5:ByteArray}{b6:Bool}{b7:ByteArray}{b8:Bool}{b9:ByteArray}{b10:Bool}{b11:ByteArray}{b12:Bool}{b13:ByteArray}{b14:Bool}{b15:ByteArray}(w:World):(Instr.build 201 [(0,.agg #[.bool a0,.string a1,.bool a2,.string a3,.bool a4,.string a5,.bool a6,.string a7,.bool a8,.bool a9,.string a10,.bool a11,.string a12,.bool a13,.string a14,.bool a15,.string a16,.bool a17,.bool a18,.bool a19]),(1,.agg #[.bool b0,.string b1,.bool b2,.string b3,.bool b4,.string b5,.bool b6,.string b7,.bool b8,.string b9,.bool b10,.string b11,.bool b12,.string b13,.bool b14,.string b15])].toArray).run Tryz.prog w= .ok (.agg #[.bool a0,.string a1,.bool a2,.string a3,.bool a4,.string a5,.bool a6,.string a7,.bool a8,.bool a9,.string a10,.bool a11,.string a12,.bool a13,.string a14,.bool a15,.string a16,.bool a17,.bool a18,.bool a19,.bool b0,.string b1,.bool b2,.string b3,.bool b4,.string b5,.bool b6,.string b7,.bool b8,.string b9,.bool b10,.string b11,.bool b12,.string b13,.bool b14,.string b15]) w:=by kernel_rfl
def VN{a0:Bool}{a1:ByteArray}{a2:Bool}{a3:ByteArray}{a4:Bool}{a5:ByteArray}{a6:Bool}{a7:ByteArray}{a8:Bool}{b0:Bool}(w:World):(Instr.build 209 [(0,.agg #[.bool a0,.string a1,.bool a2,.string a3,.bool a4,.string a5,.bool a6,.string a7,.bool a8]),(1,.bool b0)].toArray).run Tryz.prog w= .ok (.agg #[.bool a0,.string a1,.bool a2,.string a3,.bool a4,.string a5,.bool a6,.string a7,.bool a8,.bool b0]) w:=by kernel_rfl
def Ir{a0:Bool}{a1:ByteArray}{a2:Bool}{a3:ByteArray}{a4:Bool}{a5:ByteArray}{a6:Bool}{a7:ByteArray}{a8:Bool}{a9:Bool}(w:World):(Instr.build 253 [(0,.agg #[.bool a0,.string a1,.bool a2,.string a3,.bool a4,.string a5,.bool a6,.string a7,.bool a8,.bool a9])].toArray).run Tryz.prog w= .ok (.agg #[.bool a0,.string a1,.bool a2,.string a3,.bool a4,.string a5,.bool a6,.string a7,.bool a8,.bool a9,.int .i64 0,.int .i64 0]) w:=by kernel_rfl
def qgx(w:World):(Instr.buildSlice 22 0 [].toArray).run Tryz.prog w= .ok (.slice (some ⟨w.heap.size,0,none⟩) 0 0) (w.alloc (.cells [].toArray 86)):=by kernel_rfl
def tC{a0:Bool}{a1:ByteArray}{a2:Bool}{a3:ByteArray}{a4:Bool}{a5:ByteArray}{a6:Bool}{a7:ByteArray}{a8:Bool}{a9:Bool}{a10:ByteArray}{a11:Bool}{a12:ByteArray}{a13:Bool}{a14:ByteArray}{a15:Bool}{a16:ByteArray}{a17:Bool}{a18:Bool}{a19:Bool}{a20:Bool}{a21:ByteArray}{a22:Bool}{a23:ByteArray}{a24:Bool}{a25:ByteArray}{a26:Bool}{a27:ByteArray}{a28:Bool}{a29:ByteArray}{a30:Bool}{a31:ByteArray}{a32:Bool}{a33:ByteArray}{a34:Bool}{a35:ByteArray}(w:World):(Instr.buildSlice 29 1 [(0,.agg #[.bool a0,.string a1,.bool a2,.string a3,.bool a4,.string a5,.bool a6,.string a7,.bool a8,.bool a9,.string a10,.bool a11,.string a12,.bool a13,.string a14,.bool a15,.string a16,.bool a17,.bool a18,.bool a19,.bool a20,.string a21,.bool a22,.string a23,.bool a24,.string a25,.bool a26,.string a27,.bool a28,.string a29,.bool a30,.string a31,.bool a32,.string a33,.bool a34,.string a35])].toArray).run Tryz.prog w= .ok (.slice (some ⟨w.heap.size,0,none⟩) 1 1) (w.alloc (.cells [.bool a0,.string a1,.bool a2,.string a3,.bool a4,.string a5,.bool a6,.string a7,.bool a8,.bool a9,.string a10,.bool a11,.string a12,.bool a13,.string a14,.bool a15,.string a16,.bool a17,.bool a18,.bool a19,.bool a20,.string a21,.bool a22,.string a23,.bool a24,.string a25,.bool a26,.string a27,.bool a28,.string a29,.bool a30,.string a31,.bool a32,.string a33,.bool a34,.string a35].toArray 100)):=by kernel_rfl
def qgy{a0:Bool}{a1:ByteArray}{a2:Bool}{a3:ByteArray}{a4:Bool}{a5:ByteArray}{a6:Bool}{a7:ByteArray}{a8:Bool}{a9:Bool}{a10:ByteArray}{a11:Bool}{a12:ByteArray}{a13:Bool}{a14:ByteArray}{a15:Bool}{a16:ByteArray}{a17:Bool}{a18:Bool}{a19:Bool}{a20:Bool}{a21:ByteArray}{a22:Bool}{a23:ByteArray}{a24:Bool}{a25:ByteArray}{a26:Bool}{a27:ByteArray}{a28:Bool}{a29:ByteArray}{a30:Bool}{a31:ByteArray}{a32:Bool}{a33:ByteArray}{a34:Bool}{a35:ByteArray}{b0:Bool}{b1:ByteArray}{b2:Bool}{b3:ByteArray}{b4:Bool}{b5:ByteArray}{b6:Bool}{b7:ByteArray}{b8:Bool}{b9:Bool}{b10:ByteArray}{b11:Bool}{b12:ByteArray}{b13:Bool}{b14:ByteArray}{b15:Bool}{b16:ByteArray}{b17:Bool}{b18:Bool}{b19:Bool}{b20:Bool}{b21:ByteArray}{b22:Bool}{b23:ByteArray}{b24:Bool}{b25:ByteArray}{b26:Bool}{b27:ByteArray}{b28:Bool}{b29:ByteArray}{b30:Bool}{b31:ByteArray}{b32:Bool}{b33:ByteArray}{b34:Bool}{b35:ByteArray}(w:World):(Instr.buildSlice 29 2 [(0,.agg #[.bool a0,.string a1,.bool a2,.string a3,.bool a4,.string a5,.bool a6,.string a7,.bool a8,.bool a9,.string a10,.bool a11,.string a12,.bool a13,.string a14,.bool a15,.string a16,.bool a17,.bool a18,.bool a19,.bool a20,.string a21,.bool a22,.string a23,.bool a24,.string a25,.bool a26,.string a27,.bool a28,.string a29,.bool a30,.string a31,.bool a32,.string a33,.bool a34,.string a35]),(1,.agg #[.bool b0,.string b1,.bool b2,.string b3,.bool b4,.string b5,.bool b6,.string b7,.bool b8,.bool b9,.string b10,.bool b11,.string b12,.bool b13,.string b14,.bool b15,.string b16,.bool b17,.bool b18,.bool b19,.bool b20,.string b21,.bool b22,.string b23,.bool b24,.string b25,.bool b26,.string b27,.bool b28,.string b29,.bool b30,.string b31,.bool b32,.string b33,.bool b34,.string b35])].toArray).run Tryz.prog w= .ok (.slice (some ⟨w.heap.size,0,none⟩) 2 2) (w.alloc (.cells [.bool a0,.string a1,.bool a2,.string a3,.bool a4,.string a5,.bool a6,.string a7,.bool a8,.bool a9,.string a10,.bool a11,.string a12,.bool a13,.string a14,.bool a15,.string a16,.bool a17,.bool a18,.bool a19,.bool a20,.string a21,.bool a22,.string a23,.bool a24,.string a25,.bool a26,.string a27,.bool a28,.string a29,.bool a30,.string a31,.bool a32,.string a33,.bool a34,.string a35,.bool b0,.string b1,.bool b2,.string b3,.bool b4,.string b5,.bool b6,.string b7,.bool b8,.bool b9,.string b10,.bool b11,.string b12,.bool b13,.string b14,.bool b15,.string b16,.bool b17,.bool b18,.bool b19,.bool b20,.string b21,.bool b22,.string b23,.bool b24,.string b25,.bool b26,.string b27,.bool b28,.string b29,.bool b30,.string b31,.bool b32,.string b33,.bool b34,.string b35].toArray 100)):=by kernel_rfl
def FO{a0:Bool}{a1:ByteArray}{a2:Bool}{a3:ByteArray}{a4:Bool}{a5:ByteArray}{a6:Bool}{a7:ByteArray}{a8:Bool}{a9:Bool}{a10:ByteArray}{a11:Bool}{a12:ByteArray}{a13:Bool}{a14:ByteArray}{a15:Bool}{a16:ByteArray}{a17:Bool}{a18:Bool}{a19:Bool}{a20:Bool}{a21:ByteArray}{a22:Bool}{a23:ByteArray}{a24:Bool}{a25:ByteArray}{a26:Bool}{a27:ByteArray}{a28:Bool}{a29:Bool}{a30:ByteArray}{a31:Bool}{a32:ByteArray}{a33:Bool}{a34:ByteArray}{a35:Bool}{a36:ByteArray}{a37:Bool}(w:World):(Instr.buildSlice 32 1 [(0,.agg #[.bool a0,.string a1,.bool a2,.string a3,.bool a4,.string a5,.bool a6,.string a7,.bool a8,.bool a9,.string a10,.bool a11,.string a12,.bool a13,.string a14,.bool a15,.string a16,.bool a17,.bool a18,.bool a19,.bool a20,.string a21,.bool a22,.string a23,.bool a24,.string a25,.bool a26,.string a27,.bool a28,.bool a29,.string a30,.bool a31,.string a32,.bool a33,.string a34,.bool a35,.string a36,.bool a37])].toArray).run Tryz.prog w= .ok (.slice (some ⟨w.heap.size,0,none⟩) 1 1) (w.alloc (.cells [.bool a0,.string a1,.bool a2,.string a3,.bool a4,.string a5,.bool a6,.string a7,.bool a8,.bool a9,.string a10,.bool a11,.string a12,.bool a13,.string a14,.bool a15,.string a16,.bool a17,.bool a18,.bool a19,.bool a20,.string a21,.bool a22,.string a23,.bool a24,.string a25,.bool a26,.string a27,.bool a28,.bool a29,.string a30,.bool a31,.string a32,.bool a33,.string a34,.bool a35,.string a36,.bool a37].toArray 63)):=by kernel_rfl
def xU{a0:Bool}{a1:ByteArray}{a2:Bool}{a3:ByteArray}{a4:Bool}{a5:ByteArray}{a6:Bool}{a7:ByteArray}{a8:Bool}{a9:Bool}{a10:ByteArray}{a11:Bool}{a12:ByteArray}{a13:Bool}{a14:ByteArray}{a15:Bool}{a16:ByteArray}{a17:Bool}{a18:Bool}{a19:Bool}(w:World):(Instr.buildSlice 74 1 [(0,.agg #[.bool a0,.string a1,.bool a2,.string a3,.bool a4,.string a5,.bool a6,.string a7,.bool a8,.bool a9,.string a10,.bool a11,.string a12,.bool a13,.string a14,.bool a15,.string a16,.bool a17,.bool a18,.bool a19])].toArray).run Tryz.prog w= .ok (.slice (some ⟨w.heap.size,0,none⟩) 1 1) (w.alloc (.cells [.bool a0,.string a1,.bool a2,.string a3,.bool a4,.string a5,.bool a6,.string a7,.bool a8,.bool a9,.string a10,.bool a11,.string a12,.bool a13,.string a14,.bool a15,.string a16,.bool a17,.bool a18,.bool a19].toArray 61)):=by kernel_rfl
def qgz{a0:Bool}{a1:ByteArray}{a2:Bool}{a3:ByteArray}{a4:Bool}{a5:ByteArray}{a6:Bool}{a7:ByteArray}{a8:Bool}{a9:Bool}{a10:ByteArray}{a11:Bool}{a12:ByteArray}{a13:Bool}{a14:ByteArray}{a15:Bool}{a16:ByteArray}{a17:Bool}{a18:Bool}{a19:Bool}{a20:Bool}{a21:ByteArray}{a22:Bool}{a23:ByteArray}{a24:Bool}{a25:ByteArray}{a26:Bool}{a27:ByteArray}{a28:Bool}{a29:ByteArray}{a30:Bool}{a31:ByteArray}(w:World):(Instr.buildSlice 88 1 [(0,.agg #[.bool a0,.string a1,.bool a2,.string a3,.bool a4,.string a5,.bool a6,.string a7,.bool a8,.bool a9,.string a10,.bool a11,.string a12,.bool a13,.string a14,.bool a15,.string a16,.bool a17,.bool a18,.bool a19,.bool a20,.string a21,.bool a22,.string a23,.bool a24,.string a25,.bool a26,.string a27,.bool a28,.string a29,.bool a30,.string a31])].toArray).run Tryz.prog w= .ok (.slice (some ⟨w.heap.size,0,none⟩) 1 1) (w.alloc (.cells [.bool a0,.string a1,.bool a2,.string a3,.bool a4,.string a5,.bool a6,.string a7,.bool a8,.bool a9,.string a10,.bool a11,.string a12,.bool a13,.string a14,.bool a15,.string a16,.bool a17,.bool a18,.bool a19,.bool a20,.string a21,.bool a22,.string a23,.bool a24,.string a25,.bool a26,.string a27,.bool a28,.string a29,.bool a30,.string a31].toArray 93)):=by kernel_rfl
def qdo(w:World):(Instr.buildSlice 118 0 [].toArray).run Tryz.prog w= .ok (.slice (some ⟨w.heap.size,0,none⟩) 0 0) (w.alloc (.cells [].toArray 3)):=by kernel_rfl
def fQ{a0:Int}(w:World):(Instr.buildSlice 118 1 [(0,.int .i64 a0)].toArray).run Tryz.prog w= .ok (.slice (some ⟨w.heap.size,0,none⟩) 1 1) (w.alloc (.cells [.int .i64 a0].toArray 3)):=by kernel_rfl
def qdp{a0:Int}{b0:Int}(w:World):(Instr.buildSlice 118 2 [(0,.int .i64 a0),(1,.int .i64 b0)].toArray).run Tryz.prog w= .ok (.slice (some ⟨w.heap.size,0,none⟩) 2 2) (w.alloc (.cells [.int .i64 a0,.int .i64 b0].toArray 3)):=by kernel_rfl
def qdq{a0:Int}{b0:Int}{c0:Int}(w:World):(Instr.buildSlice 118 3 [(0,.int .i64 a0),(1,.int .i64 b0),(2,.int .i64 c0)].toArray).run Tryz.prog w= .ok (.slice (some ⟨w.heap.size,0,none⟩) 3 3) (w.alloc (.cells [.int .i64 a0,.int .i64 b0,.int .i64 c0].toArray 3)):=by kernel_rfl
def VO{a0:Bool}{a1:ByteArray}{a2:Bool}{a3:ByteArray}{a4:Bool}{a5:ByteArray}{a6:Bool}{a7:ByteArray}{a8:Bool}{a9:Bool}{a10:ByteArray}{a11:Bool}{a12:ByteArray}{a13:Bool}{a14:ByteArray}{a15:Bool}{a16:ByteArray}{a17:Bool}{a18:Bool}{a19:Bool}{a20:Bool}{a21:ByteArray}{a22:Bool}{a23:ByteArray}{a24:Bool}{a25:ByteArray}{a26:Bool}{a27:ByteArray}{a28:Bool}{a29:ByteArray}{a30:Bool}{a31:ByteArray}{a32:Bool}{a33:ByteArray}{a34:Bool}{a35:ByteArray}{a36:Bool}{a37:ByteArray}{a38:Bool}{a39:ByteArray}{a40:Bool}{a41:ByteArray}{a42:Bool}{a43:ByteArray}{a44:Bool}{a45:ByteArray}{a46:Bool}{a47:ByteArray}{a48:Bool}{a49:ByteArray}{a50:Bool}{a51:ByteArray}(w:World):(Instr.buildSlice 146 1 [(0,.agg #[.bool a0,.string a1,.bool a2,.string a3,.bool a4,.string a5,.bool a6,.string a7,.bool a8,.bool a9,.string a10,.bool a11,.string a12,.bool a13,.string a14,.bool a15,.string a16,.bool a17,.bool a18,.bool a19,.bool a20,.string a21,.bool a22,.string a23,.bool a24,.string a25,.bool a26,.string a27,.bool a28,.string a29,.bool a30,.string a31,.bool a32,.string a33,.bool a34,.string a35,.bool a36,.string a37,.bool a38,.string a39,.bool a40,.string a41,.bool a42,.string a43,.bool a44,.string a45,.bool a46,.string a47,.bool a48,.string a49,.bool a50,.string a51])].toArray).run Tryz.prog w= .ok (.slice (some ⟨w.heap.size,0,none⟩) 1 1) (w.alloc (.cells [.bool a0,.string a1,.bool a2,.string a3,.bool a4,.string a5,.bool a6,.string a7,.bool a8,.bool a9,.string a10,.bool a11,.string a12,.bool a13,.string a14,.bool a15,.string a16,.bool a17,.bool a18,.bool a19,.bool a20,.string a21,.bool a22,.string a23,.bool a24,.string a25,.bool a26,.string a27,.bool a28,.string a29,.bool a30,.string a31,.bool a32,.string a33,.bool a34,.string a35,.bool a36,.string a37,.bool a38,.string a39,.bool a40,.string a41,.bool a42,.string a43,.bool a44,.string a45,.bool a46,.string a47,.bool a48,.string a49,.bool a50,.string a51].toArray 151)):=by kernel_rfl
def qdr(w:World):(Instr.buildSlice 148 0 [].toArray).run Tryz.prog w= .ok (.slice (some ⟨w.heap.size,0,none⟩) 0 0) (w.alloc (.cells [].toArray 201)):=by kernel_rfl
def qJ{a0:Bool}{a1:ByteArray}{a2:Bool}{a3:ByteArray}{a4:Bool}{a5:ByteArray}{a6:Bool}{a7:ByteArray}{a8:Bool}{a9:Bool}{a10:ByteArray}{a11:Bool}{a12:ByteArray}{a13:Bool}{a14:ByteArray}{a15:Bool}{a16:ByteArray}{a17:Bool}{a18:Bool}{a19:Bool}{a20:Bool}{a21:ByteArray}{a22:Bool}{a23:ByteArray}{a24:Bool}{a25:ByteArray}{a26:Bool}{a27:ByteArray}{a28:Bool}{a29:ByteArray}{a30:Bool}{a31:ByteArray}{a32:Bool}{a33:ByteArray}{a34:Bool}{a35:ByteArray}(w:World):(Instr.buildSlice 148 1 [(0,.agg #[.bool a0,.string a1,.bool a2,.string a3,.bool a4,.string a5,.bool a6,.string a7,.bool a8,.bool a9,.string a10,.bool a11,.string a12,.bool a13,.string a14,.bool a15,.string a16,.bool a17,.bool a18,.bool a19,.bool a20,.string a21,.bool a22,.string a23,.bool a24,.string a25,.bool a26,.string a27,.bool a28,.string a29,.bool a30,.string a31,.bool a32,.string a33,.bool a34,.string a35])].toArray).run Tryz.prog w= .ok (.slice (some ⟨w.heap.size,0,none⟩) 1 1) (w.alloc (.cells [.bool a0,.string a1,.bool a2,.string a3,.bool a4,.string a5,.bool a6,.string a7,.bool a8,.bool a9,.string a10,.bool a11,.string a12,.bool a13,.string a14,.bool a15,.string a16,.bool a17,.bool a18,.bool a19,.bool a20,.string a21,.bool a22,.string a23,.bool a24,.string a25,.bool a26,.string a27,.bool a28,.string a29,.bool a30,.string a31,.bool a32,.string a33,.bool a34,.string a35].toArray 201)):=by kernel_rfl
def qds{a0:Bool}{a1:ByteArray}{a2:Bool}{a3:ByteArray}{a4:Bool}{a5:ByteArray}{a6:Bool}{a7:ByteArray}{a8:Bool}(w:World):(Instr.buildSlice 153 1 [(0,.agg #[.bool a0,.string a1,.bool a2,.string a3,.bool a4,.string a5,.bool a6,.string a7,.bool a8])].toArray).run Tryz.prog w= .ok (.slice (some ⟨w.heap.size,0,none⟩) 1 1) (w.alloc (.cells [.bool a0,.string a1,.bool a2,.string a3,.bool a4,.string a5,.bool a6,.string a7,.bool a8].toArray 38)):=by kernel_rfl
def Iu{a0:Bool}{a1:ByteArray}{a2:Bool}{a3:ByteArray}{a4:Bool}{a5:ByteArray}{a6:Bool}{a7:ByteArray}{a8:Bool}{a9:Bool}{a10:ByteArray}{a11:Bool}{a12:ByteArray}{a13:Bool}{a14:ByteArray}{a15:Bool}{a16:ByteArray}{a17:Bool}{a18:Bool}{a19:Bool}{a20:Int}(w:World):(Instr.buildSlice 177 1 [(0,.agg #[.bool a0,.string a1,.bool a2,.string a3,.bool a4,.string a5,.bool a6,.string a7,.bool a8,.bool a9,.string a10,.bool a11,.string a12,.bool a13,.string a14,.bool a15,.string a16,.bool a17,.bool a18,.bool a19,.int .i64 a20])].toArray).run Tryz.prog w= .ok (.slice (some ⟨w.heap.size,0,none⟩) 1 1) (w.alloc (.cells [.bool a0,.string a1,.bool a2,.string a3,.bool a4,.string a5,.bool a6,.string a7,.bool a8,.bool a9,.string a10,.bool a11,.string a12,.bool a13,.string a14,.bool a15,.string a16,.bool a17,.bool a18,.bool a19,.int .i64 a20].toArray 181)):=by kernel_rfl
def qdt{a0:Int}(w:World):(Instr.buildSlice 221 1 [(0,.int .u8 a0)].toArray).run Tryz.prog w= .ok (.slice (some ⟨w.heap.size,0,none⟩) 1 1) (w.alloc (.cells [.int .u8 a0].toArray 5)):=by kernel_rfl
def VP{a0:Bool}{a1:ByteArray}{a2:Bool}{a3:ByteArray}{a4:Bool}{a5:ByteArray}{a6:Bool}{a7:ByteArray}{a8:Bool}{a9:Bool}{a10:Int}{a11:Int}{b0:Bool}{b1:ByteArray}{b2:Bool}{b3:ByteArray}{b4:Bool}{b5:ByteArray}{b6:Bool}{b7:ByteArray}{b8:Bool}{b9:Bool}{b10:Int}{b11:Int}(w:World):(Instr.buildSlice 249 2 [(0,.agg #[.bool a0,.string a1,.bool a2,.string a3,.bool a4,.string a5,.bool a6,.string a7,.bool a8,.bool a9,.int .i64 a10,.int .i64 a11]),(1,.agg #[.bool b0,.string b1,.bool b2,.string b3,.bool b4,.string b5,.bool b6,.string b7,.bool b8,.bool b9,.int .i64 b10,.int .i64 b11])].toArray).run Tryz.prog w= .ok (.slice (some ⟨w.heap.size,0,none⟩) 2 2) (w.alloc (.cells [.bool a0,.string a1,.bool a2,.string a3,.bool a4,.string a5,.bool a6,.string a7,.bool a8,.bool a9,.int .i64 a10,.int .i64 a11,.bool b0,.string b1,.bool b2,.string b3,.bool b4,.string b5,.bool b6,.string b7,.bool b8,.bool b9,.int .i64 b10,.int .i64 b11].toArray 253)):=by kernel_rfl
def qdu{a0:Option Addr}{a0n a0c:Nat}{b0:Option Addr}{b0n b0c:Nat}(w:World):(Instr.buildSlice 250 2 [(0,.slice a0 a0n a0c),(1,.slice b0 b0n b0c)].toArray).run Tryz.prog w= .ok (.slice (some ⟨w.heap.size,0,none⟩) 2 2) (w.alloc (.cells [.slice a0 a0n a0c,.slice b0 b0n b0c].toArray 74)):=by kernel_rfl
def qkC:LK Tryz.prog 86 4 (.agg #[.int .u8 0,.int .u8 0,.int .u8 0,.int .u8 0]):=by exact⟨by kernel_rfl,by decide⟩
def BJ:LK Tryz.prog 100 36 (.agg #[aU,aV,aU,aV,aU,aV,aU,aV,.bool false,aU,aV,aU,aV,aU,aV,aU,aV,.bool false,.bool false,.bool false,aU,aV,aU,aV,aU,aV,aU,aV,aU,aV,aU,aV,aU,aV,aU,aV]):=by exact⟨by kernel_rfl,by decide⟩
def XW:LK Tryz.prog 63 38 (.agg #[aU,aV,aU,aV,aU,aV,aU,aV,.bool false,aU,aV,aU,aV,aU,aV,aU,aV,.bool false,.bool false,.bool false,aU,aV,aU,aV,aU,aV,aU,aV,.bool false,aU,aV,aU,aV,aU,aV,aU,aV,.bool false]):=by exact⟨by kernel_rfl,by decide⟩
def XX:LK Tryz.prog 61 20 (.agg #[aU,aV,aU,aV,aU,aV,aU,aV,.bool false,aU,aV,aU,aV,aU,aV,aU,aV,.bool false,.bool false,.bool false]):=by exact⟨by kernel_rfl,by decide⟩
def qkD:LK Tryz.prog 93 32 (.agg #[aU,aV,aU,aV,aU,aV,aU,aV,.bool false,aU,aV,aU,aV,aU,aV,aU,aV,.bool false,.bool false,.bool false,aU,aV,aU,aV,aU,aV,aU,aV,aU,aV,aU,aV]):=by exact⟨by kernel_rfl,by decide⟩
def Hr:LK Tryz.prog 3 1 (.int .i64 0):=by exact⟨by kernel_rfl,by decide⟩
def zx:LK Tryz.prog 201 36 (.agg #[aU,aV,aU,aV,aU,aV,aU,aV,.bool false,aU,aV,aU,aV,aU,aV,aU,aV,.bool false,.bool false,.bool false,aU,aV,aU,aV,aU,aV,aU,aV,aU,aV,aU,aV,aU,aV,aU,aV]):=by exact⟨by kernel_rfl,by decide⟩
def VQ:LK Tryz.prog 181 21 (.agg #[aU,aV,aU,aV,aU,aV,aU,aV,.bool false,aU,aV,aU,aV,aU,aV,aU,aV,.bool false,.bool false,.bool false,.int .i64 0]):=by exact⟨by kernel_rfl,by decide⟩
def el5:LK Tryz.prog 5 1 (.int .u8 0):=by exact⟨by kernel_rfl,by decide⟩
def qfy:LK Tryz.prog 253 12 (.agg #[aU,aV,aU,aV,aU,aV,aU,aV,.bool false,.bool false,.int .i64 0,.int .i64 0]):=by exact⟨by kernel_rfl,by decide⟩
def rP:LK Tryz.prog 272 1 (.int .u32 0):=by exact⟨by kernel_rfl,by decide⟩
def XY:Tryz.prog.eqGuardType Tryz.prog.depth 34=false:=by kernel_rfl
def Z5:Tryz.prog.eqGuardType Tryz.prog.depth 36=false:=by kernel_rfl
def OA:Tryz.prog.eqGuardType Tryz.prog.depth 38=false:=by kernel_rfl
def qiQ:Tryz.prog.eqGuardType Tryz.prog.depth 61=false:=by kernel_rfl
def qgA:Tryz.prog.eqGuardType Tryz.prog.depth 63=false:=by kernel_rfl
def qkE:Tryz.prog.eqGuardType Tryz.prog.depth 91=false:=by kernel_rfl
def qkF:Tryz.prog.eqGuardType Tryz.prog.depth 98=false:=by kernel_rfl
def u2:Tryz.prog.underlying 2=some (.int .i64):=by kernel_rfl
def u3:Tryz.prog.underlying 3=some (.int .i64):=by kernel_rfl
def u4:Tryz.prog.underlying 4=some .bool:=by kernel_rfl
def u5:Tryz.prog.underlying 5=some (.int .u8):=by kernel_rfl
def u9:Tryz.prog.underlying 9=some .string:=by kernel_rfl
def u22:Tryz.prog.underlying 22=some (.slice 86):=by kernel_rfl
def Qx:Tryz.prog.underlying 29=some (.slice 100):=by kernel_rfl
def u32:Tryz.prog.underlying 32=some (.slice 63):=by kernel_rfl
def Z7:Tryz.prog.underlying 74=some (.slice 61):=by kernel_rfl
def u88:Tryz.prog.underlying 88=some (.slice 93):=by kernel_rfl
def iG:Tryz.prog.underlying 118=some (.slice 3):=by kernel_rfl
def qkH:Tryz.prog.underlying 130=some (.array 3 4):=by kernel_rfl
def qgB:Tryz.prog.underlying 146=some (.slice 151):=by kernel_rfl
def ku:Tryz.prog.underlying 148=some (.slice 201):=by kernel_rfl
def qkI:Tryz.prog.underlying 153=some (.slice 38):=by kernel_rfl
def qgC:Tryz.prog.underlying 174=some (.array 3 36):=by kernel_rfl
def Z8:Tryz.prog.underlying 177=some (.slice 181):=by kernel_rfl
def eP:Tryz.prog.underlying 189=some (.int .u64):=by kernel_rfl
def Ue:Tryz.prog.underlying 221=some (.slice 5):=by kernel_rfl
def qdv:Tryz.prog.underlying 249=some (.slice 253):=by kernel_rfl
def qiR:Tryz.prog.underlying 250=some (.slice 74):=by kernel_rfl
def wO:Tryz.prog.underlying 251=some (.array 2 3):=by kernel_rfl
def xW:Tryz.prog.underlying 270=some (.slice 272):=by kernel_rfl
def dG:Tryz.prog.underlying 272=some (.int .u32):=by kernel_rfl
def qiS:Tryz.prog.underlying 286=some (.array 8 5):=by kernel_rfl
def Qy(a a':Bool)(b b':ByteArray)(w:World):(Op.equalIn 10000 34 (.agg #[.bool a,.string b]) (.agg #[.bool a',.string b'])).run Tryz.prog w= .ok ((a==a')&&(b==b')) w:=by
 simp only[beq_toListBytes];simp[go_sem]
 (repeat' split)<;>simp_all
def qiT(a a' c c':Bool)(b b' d d':ByteArray)(w:World):(Op.equalIn 10000 36 (.agg #[.bool a,.string b,.bool c,.string d]) (.agg #[.bool a',.string b',.bool c',.string d'])).run Tryz.prog w=
 .ok ((a==a')&&((b==b')&&((c==c')&&(d==d')))) w:=by
 simp only[beq_toListBytes];simp[go_sem]
 (repeat' split)<;>simp_all
def qiU(x y:Int)(w:World):(Op.equalIn 10000 34 (I x) (I y)).run Tryz.prog w= .ok (decide (x=y)) w:=by
 rw[<-qiC];exact Qy _ _ _ _ w
def Z9(p q:Rat)(w:World):(Op.equalIn 10000 36 (Q p) (Q q)).run Tryz.prog w= .ok (decide (p=q)) w:=by
 refine(qiT _ _ _ _ _ _ _ _ w).trans ?_;rw[<-qiD]
 congr 1
 simp[Bool.and_assoc]
def mg{P:Program}{d:Nat}{T:TypeId}{xs ys:Array Value}{f:Field}{fs:List Field}{x y:Value}{r r':Bool}{w:World}(hn:f.name≠ "_")(hx:(part f.type xs f.offset).run P w= .ok x w)(hy:(part f.type ys f.offset).run P w= .ok y w)
 (h:(Op.equalIn d f.type x y).run P w= .ok r w)(h':(Op.eqFields d xs ys fs).run P w= .ok r' w):(Op.eqFields d xs ys (f::fs)).run P w= .ok (r&&r') w:=by
 simp only[Op.eqFields,hn,ne_eq,not_false_eq_true,if_true,Sem.run_bind,hx,hy,h,Result.andThen_ok];cases r<;>simp[h']
end Go.Proofs.YtaffcpfhedadhaaGreatDoor
namespace Go.Proofs
open Go.Shelf
def Tryz.lays126_ren:Go.Shelf.Ren:=⟨fun|126=>230|n=>n,fun|5=>5|3=>3|9=>9|n=>n,fun|n=>n⟩
def Tryz.lays126:Go.Proofs.Lays.n126 Tryz.prog Tryz.lays126_ren:={
 mixed:=by kernel_rfl
 f126:=Tryz.func230.trans (congrArg some (by kernel_rfl))
 t3:=Tryz.underlying3
 a3:=Tryz.isAgg3
 z3:=Tryz.sizeOf3
 v3:=Tryz.zeroValue3
 t5:=Tryz.underlying5
 a5:=Tryz.isAgg5
 z5:=Tryz.sizeOf5
 v5:=Tryz.zeroValue5
 t9:=Tryz.underlying9
 a9:=Tryz.isAgg9
 z9:=Tryz.sizeOf9
 v9:=Tryz.zeroValue9}
def Tryz.bits_Len8(x:Int)(w:World)(h0:0<=x)(h1:x<=255):
 Calls Tryz.prog 230 #[.int .u8 x] w fun e w'=>e= .returned (.int .i64 (Lib.bitLen x.toNat))∧w'=w:=Any.bits_Len8 Tryz.lays126 x w h0 h1
def Tryz.lays133_ren:Go.Shelf.Ren:=⟨fun|133=>228|128=>247|n=>n,fun|51=>272|3=>3|4=>4|46=>236|5=>5|9=>9|n=>n,fun|n=>n⟩
def Tryz.lays133:Go.Proofs.Lays.n133 Tryz.prog Tryz.lays133_ren:={
 mixed:=by kernel_rfl
 f128:=Tryz.func247.trans (congrArg some (by kernel_rfl))
 f133:=Tryz.func228.trans (congrArg some (by kernel_rfl))
 t3:=Tryz.underlying3
 a3:=Tryz.isAgg3
 z3:=Tryz.sizeOf3
 v3:=Tryz.zeroValue3
 t4:=Tryz.underlying4
 a4:=Tryz.isAgg4
 z4:=Tryz.sizeOf4
 v4:=Tryz.zeroValue4
 t5:=Tryz.underlying5
 a5:=Tryz.isAgg5
 z5:=Tryz.sizeOf5
 v5:=Tryz.zeroValue5
 t9:=Tryz.underlying9
 a9:=Tryz.isAgg9
 z9:=Tryz.sizeOf9
 v9:=Tryz.zeroValue9
 t46:=Tryz.underlying236
 a46:=Tryz.isAgg236
 z46:=Tryz.sizeOf236
 v46:=Tryz.zeroValue236
 t51:=Tryz.underlying272
 a51:=Tryz.isAgg272
 z51:=Tryz.sizeOf272
 v51:=Tryz.zeroValue272}
def Tryz.bits_LeadingZeros32(x:Int)(w:World)(h0:0<=x)(h1:x<=4294967295):
 Calls Tryz.prog 228 #[.int .u32 x] w fun e w'=>e= .returned (.int .i64 (32-(Lib.bitLen x.toNat:Int)))∧w'=w:=Any.bits_LeadingZeros32 Tryz.lays133 x w h0 h1
def Tryz.lays106_ren:Go.Shelf.Ren:=⟨fun|106=>225|213=>248|265=>271|n=>n,fun|9=>9|3=>3|n=>n,fun|n=>n⟩
def Tryz.lays106:Go.Proofs.Lays.n106 Tryz.prog Tryz.lays106_ren:={
 mixed:=by kernel_rfl
 f106:=Tryz.func225.trans (congrArg some (by kernel_rfl))
 f213:=Tryz.func248.trans (congrArg some (by kernel_rfl))
 f265:=Tryz.func271.trans (congrArg some (by kernel_rfl))
 t3:=Tryz.underlying3
 a3:=Tryz.isAgg3
 z3:=Tryz.sizeOf3
 v3:=Tryz.zeroValue3
 t9:=Tryz.underlying9
 a9:=Tryz.isAgg9
 z9:=Tryz.sizeOf9
 v9:=Tryz.zeroValue9}
open Go.RowKit in
def Tryz.strings_Compare(a b:ByteArray)(w:World):
 Calls Tryz.prog 225 #[.string a,.string b] w fun e w'=>e= .returned (.int .i64 (Lib.compareBytes a.data.toList b.data.toList))∧w'=w:=Any.strings_Compare Tryz.lays106 a b w
def Tryz.lays129_ren:Go.Shelf.Ren:=⟨fun|129=>226|n=>n,fun|53=>189|3=>3|4=>4|46=>236|5=>5|9=>9|n=>n,fun|n=>n⟩
def Tryz.lays129:Go.Proofs.Lays.n129 Tryz.prog Tryz.lays129_ren:={
 mixed:=by kernel_rfl
 f129:=Tryz.func226.trans (congrArg some (by kernel_rfl))
 t3:=Tryz.underlying3
 a3:=Tryz.isAgg3
 z3:=Tryz.sizeOf3
 v3:=Tryz.zeroValue3
 t4:=Tryz.underlying4
 a4:=Tryz.isAgg4
 z4:=Tryz.sizeOf4
 v4:=Tryz.zeroValue4
 t5:=Tryz.underlying5
 a5:=Tryz.isAgg5
 z5:=Tryz.sizeOf5
 v5:=Tryz.zeroValue5
 t9:=Tryz.underlying9
 a9:=Tryz.isAgg9
 z9:=Tryz.sizeOf9
 v9:=Tryz.zeroValue9
 t46:=Tryz.underlying236
 a46:=Tryz.isAgg236
 z46:=Tryz.sizeOf236
 v46:=Tryz.zeroValue236
 t53:=Tryz.underlying189
 a53:=Tryz.isAgg189
 z53:=Tryz.sizeOf189
 v53:=Tryz.zeroValue189}
def Tryz.bits_Len64(x:Int)(w:World)(h0:0<=x)(h1:x<=18446744073709551615):
 Calls Tryz.prog 226 #[.int .u64 x] w fun e w'=>e= .returned (.int .i64 (Lib.bitLen x.toNat))∧w'=w:=Any.bits_Len64 Tryz.lays129 x w h0 h1
def Tryz.lays264_ren:Go.Shelf.Ren:=⟨fun|264=>202|n=>n,fun|53=>189|46=>236|n=>n,fun|n=>n⟩
def Tryz.lays264:Go.Proofs.Lays.n264 Tryz.prog Tryz.lays264_ren:={
 mixed:=by kernel_rfl
 f264:=Tryz.func202.trans (congrArg some (by kernel_rfl))
 t46:=Tryz.underlying236
 a46:=Tryz.isAgg236
 z46:=Tryz.sizeOf236
 v46:=Tryz.zeroValue236
 t53:=Tryz.underlying189
 a53:=Tryz.isAgg189
 z53:=Tryz.sizeOf189
 v53:=Tryz.zeroValue189}
open Go.RowKit Go.Lib in
def Tryz.bits_Mul64(x y:Nat)(hx:x<18446744073709551616)(hy:y<18446744073709551616)(w:World):
 Calls Tryz.prog 202 #[.int .u64 x,.int .u64 y] w fun e w'=>e= .returned (.tuple #[.int .u64 ((x*y/18446744073709551616:Nat):Int),.int .u64 ((x*y%18446744073709551616:Nat):Int)])∧w'=w:=Any.bits_Mul64 Tryz.lays264 x y hx hy w
def Tryz.lays105_ren:Go.Shelf.Ren:=⟨fun|105=>231|212=>249|99=>250|165=>251|166=>252|170=>253|169=>254|263=>272|264=>202|206=>273|240=>274|241=>275|276=>285|277=>286|n=>n,fun|9=>9|3=>3|4=>4|20=>20|0=>0|46=>236|109=>303|5=>5|72=>308|76=>312|51=>272|146=>334|53=>189|148=>267|70=>306|37=>221|75=>311|127=>336|164=>346|80=>273|n=>n,fun|n=>n⟩
def Tryz.lays105:Go.Proofs.Lays.n105 Tryz.prog Tryz.lays105_ren:={
 mixed:=by kernel_rfl
 f99:=Tryz.func250.trans (congrArg some (by kernel_rfl))
 f105:=Tryz.func231.trans (congrArg some (by kernel_rfl))
 f165:=Tryz.func251.trans (congrArg some (by kernel_rfl))
 f166:=Tryz.func252.trans (congrArg some (by kernel_rfl))
 f169:=Tryz.func254.trans (congrArg some (by kernel_rfl))
 f170:=Tryz.func253.trans (congrArg some (by kernel_rfl))
 f206:=Tryz.func273.trans (congrArg some (by kernel_rfl))
 f212:=Tryz.func249.trans (congrArg some (by kernel_rfl))
 f240:=Tryz.func274.trans (congrArg some (by kernel_rfl))
 f241:=Tryz.func275.trans (congrArg some (by kernel_rfl))
 f263:=Tryz.func272.trans (congrArg some (by kernel_rfl))
 f264:=Tryz.func202.trans (congrArg some (by kernel_rfl))
 f276:=Tryz.func285.trans (congrArg some (by kernel_rfl))
 f277:=Tryz.func286.trans (congrArg some (by kernel_rfl))
 t0:=Tryz.underlying0
 a0:=Tryz.isAgg0
 z0:=Tryz.sizeOf0
 v0:=Tryz.zeroValue0
 t3:=Tryz.underlying3
 a3:=Tryz.isAgg3
 z3:=Tryz.sizeOf3
 v3:=Tryz.zeroValue3
 t4:=Tryz.underlying4
 a4:=Tryz.isAgg4
 z4:=Tryz.sizeOf4
 v4:=Tryz.zeroValue4
 t5:=Tryz.underlying5
 a5:=Tryz.isAgg5
 z5:=Tryz.sizeOf5
 v5:=Tryz.zeroValue5
 t9:=Tryz.underlying9
 a9:=Tryz.isAgg9
 z9:=Tryz.sizeOf9
 v9:=Tryz.zeroValue9
 t20:=Tryz.underlying20
 a20:=Tryz.isAgg20
 z20:=Tryz.sizeOf20
 v20:=Tryz.zeroValue20
 t37:=Tryz.underlying221
 a37:=Tryz.isAgg221
 z37:=Tryz.sizeOf221
 v37:=Tryz.zeroValue221
 t46:=Tryz.underlying236
 a46:=Tryz.isAgg236
 z46:=Tryz.sizeOf236
 v46:=Tryz.zeroValue236
 t51:=Tryz.underlying272
 a51:=Tryz.isAgg272
 z51:=Tryz.sizeOf272
 v51:=Tryz.zeroValue272
 t53:=Tryz.underlying189
 a53:=Tryz.isAgg189
 z53:=Tryz.sizeOf189
 v53:=Tryz.zeroValue189
 t70:=Tryz.underlying306
 a70:=Tryz.isAgg306
 z70:=Tryz.sizeOf306
 v70:=Tryz.zeroValue306
 t72:=Tryz.underlying308
 a72:=Tryz.isAgg308
 z72:=Tryz.sizeOf308
 v72:=Tryz.zeroValue308
 t75:=Tryz.underlying311
 a75:=Tryz.isAgg311
 z75:=Tryz.sizeOf311
 v75:=Tryz.zeroValue311
 t76:=Tryz.underlying312
 a76:=Tryz.isAgg312
 z76:=Tryz.sizeOf312
 v76:=Tryz.zeroValue312
 t109:=Tryz.underlying303
 a109:=Tryz.isAgg303
 z109:=Tryz.sizeOf303
 v109:=Tryz.zeroValue303
 t127:=Tryz.underlying336
 a127:=Tryz.isAgg336
 z127:=Tryz.sizeOf336
 v127:=Tryz.zeroValue336
 t146:=Tryz.underlying334
 a146:=Tryz.isAgg334
 z146:=Tryz.sizeOf334
 v146:=Tryz.zeroValue334
 t148:=Tryz.underlying267
 a148:=Tryz.isAgg267
 z148:=Tryz.sizeOf267
 v148:=Tryz.zeroValue267
 t164:=Tryz.underlying346
 a164:=Tryz.isAgg346
 z164:=Tryz.sizeOf346
 v164:=Tryz.zeroValue346}
def Tryz.Builder_Extra_105:Builder.Extra Tryz.prog Tryz.lays105_ren:={
 sizeBuilder:=by kernel_rfl
 liesBuilder:=by kernel_rfl
 t5:=Tryz.underlying5
 a5:=Tryz.isAgg5
 z5:=Tryz.sizeOf5
 v5:=Tryz.zeroValue5
 infoByte:=by kernel_rfl
 cellsByte:=by kernel_rfl
 sizeByte:=by kernel_rfl
 neB5:=by decide}
open Go.RowKit Go.Lib in
def Tryz.strings_Repeat(s:ByteArray)(c:Nat)(w:World)(hc:c<=9223372036854775807)(hlen:s.size*c<=140737488355328):
 Calls Tryz.prog 231 #[.string s,.int .i64 c] w fun e w'=>e= .returned (.string ⟨(Lib.repeatL s.data.toList c).toArray⟩)∧Below w.heap.size w w':=Any.strings_Repeat Tryz.lays105 Tryz.Builder_Extra_105 s c w hc hlen
end Go.Proofs
namespace Go.Via
variable[Mo]
open Go Go.RowKit
def zy{P:Program}{f:Nat}{args:Array Value}{v:Value}(hp:iF P f=true)(h:∀w,Calls P f args w fun e w'=>e= .returned v∧w'=w):aH P f args v:=
 ⟨hp,fun w=>(h w).mono (by rintro e w' ⟨h1,rfl⟩;exact⟨h1,eQ.refl _ _⟩)⟩
def vM{x:Nat}(h:x<2^64)(h0:x≠0):1<=Lib.bitLen x∧2^(Lib.bitLen x-1)<=x∧x<2^Lib.bitLen x:=Lib.bitLenAux_bounds 64 x h h0
theorem XZ{x:Nat}(h:x<18446744073709551616)(h0:x≠0):(Lib.bitLen x+7)/8=nb x:=by
 obtain⟨h1,h2,h3⟩:=vM (by omega) h0
 generalize hb:Lib.bitLen x=b at*
 have e1:nb x<=(b+7)/8:=nC (by
 have:(256:Nat)^((b+7)/8)=2^(8*((b+7)/8)):=(by rw[Nat.pow_mul]);rw[this];exact Nat.lt_of_lt_of_le h3 (Nat.pow_le_pow_right (by omega) (by omega)))
 have e2:(b+7)/8<=nb x:=by
  have:(b-1)/8<nb x:=Oj (by omega) (by
 have:(256:Nat)^((b-1)/8)=2^(8*((b-1)/8)):=(by rw[Nat.pow_mul]);rw[this];exact Nat.le_trans (Nat.pow_le_pow_right (by omega) (by omega)) h2)
  omega
 omega
def FP:∀(a b:List Nat),a.length=b.length->(∀d∈a,d<256)->(∀d∈b,d<256)->
 Lib.compareBytes (a.reverse.map UInt8.ofNat) (b.reverse.map UInt8.ofNat)=if val 256 a<val 256 b then-1 else if val 256 b<val 256 a then 1 else 0:=by
 have key:∀(a b:List UInt8),a.length=b.length->Lib.compareBytes a b=if lX a<lX b then-1 else if lX b<lX a then 1 else 0:=by
  intro a
  induction a with
  |nil=>intro b h;cases b with
   |nil=>simp[Lib.compareBytes]
   |cons y b=>simp at h
  |cons x a ih=>
   intro b h;cases b with
   |nil=>simp at h
   |cons y b=>
    have hl:a.length=b.length:=(by simpa using h);have ea:lX (x::a)=lX a+256^a.length*x.toNat:=by
     unfold lX;rw[List.reverse_cons,List.map_append,qg];simp[val]
    have eb:lX (y::b)=lX b+256^a.length*y.toNat:=by
     unfold lX;rw[List.reverse_cons,List.map_append,qg];simp[val,hl]
    have la:lX a<256^a.length:=by
     have:=FH (B:=256) (by omega) (Jk a);simpa[lX] using this
    have lb:lX b<256^a.length:=by
     have:=FH (B:=256) (by omega) (Jk b);rw[hl];simpa[lX] using this
    have hx:∀{p q r s M:Nat},p<M->q<M->r<s->p+M*r<q+M*s:=by
     intro p q r s M h1 h2 h3;have:M*(r+1)<=M*s:=Nat.mul_le_mul_left M h3;rw[Nat.mul_add] at this;omega
    rw[Lib.compareBytes,ea,eb]
    by_cases h1:x<y
    ·have:=hx la lb (UInt8.lt_iff_toNat_lt.1 h1);rw[if_pos h1,if_pos this]
    ·by_cases h2:y<x
     ·have:=hx lb la (UInt8.lt_iff_toNat_lt.1 h2);rw[if_neg h1,if_pos h2,if_neg (by omega),if_pos this]
     ·have e:x=y:=by
       apply UInt8.toNat_inj.1
       have:=mt UInt8.lt_iff_toNat_lt.2 h1;have:=mt UInt8.lt_iff_toNat_lt.2 h2;omega
      subst e;rw[if_neg h1,if_neg h2,ih b hl];simp only[Nat.add_lt_add_iff_right]
 intro a b hl ha hb;rw[key _ _ (by simp[hl])];unfold lX;simp only[List.map_reverse,List.reverse_reverse];rw[nS ha,nS hb]
theorem Qz{m n:Nat}(h:nb m=nb n):Lib.compareBytes (bF m).data.toList (bF n).data.toList=if m<n then-1 else if n<m then 1 else 0:=by
 rw[DW,DW];have:=FP (ag 256 m) (ag 256 n) h (Au (by omega)) (Au (by omega));rw[rq (by omega),rq (by omega)] at this;exact this
end Go.Via
namespace Go.Proofs.YtaffcpfhedadhaaGreatDoor
variable[Go.Via.Mo]
open Go Go.RowKit Go.Via
def D7(x:Nat)(h:x<18446744073709551616:=by omega):aH Tryz.prog 226 #[.int .u64 x] (.int .i64 (Lib.bitLen x:Nat)):=
 zy (by kernel_rfl) fun w=>by have:=Tryz.bits_Len64 x w (by omega) (by omega);simpa using this
def tH(x:Nat)(h:x<4294967296:=by omega):aH Tryz.prog 228 #[.int .u32 x] (.int .i64 (32-(Lib.bitLen x:Int))):=
 zy (by kernel_rfl) fun w=>by have:=Tryz.bits_LeadingZeros32 x w (by omega) (by omega);simpa using this
def D9(x y:Nat)(hx:x<18446744073709551616:=by omega)(hy:y<18446744073709551616:=by omega):aH Tryz.prog 202 #[.int .u64 x,.int .u64 y] (.tuple #[.int .u64 ((x*y/18446744073709551616:Nat):Int),.int .u64 ((x*y%18446744073709551616:Nat):Int)]):=
 zy (by kernel_rfl) fun w=>Tryz.bits_Mul64 x y hx hy w
def Ea(a b:ByteArray):aH Tryz.prog 225 #[.string a,.string b] (.int .i64 (Lib.compareBytes a.data.toList b.data.toList)):=
 zy (by kernel_rfl) fun w=>Tryz.strings_Compare a b w
def qdw{bl:List Nat}{ops:Array Oper}{K:St->Prop}{rest:List Oper}{nt:Nat}{t:List (Nat×Value)}{L:List aF}{d:Nat}{ty:TypeId}{pos:String}{af:Array Edge}{g:Option (Nat×Bool)}{x y z:Operand}{ts:Array TypeId}(m n:Nat)(hd:Nat.blt d nt=true)(hg:ax ops ⟨some d,.call {callee:= .value (.func 238),args:= #[x,y,z],argTypes:=ts},ty,pos,af,g⟩ t=some true)
 (hx:ev t x=some (.int .u64 (m:Int)))(hy:ev t y=some (.int .u64 (n:Int)))(hz:ev t z=some (.int .u64 0))(h:aX Tryz.prog bl ops rest ⟨nt,(d,.tuple #[.int .u64 (((m+n)%18446744073709551616:Nat):Int),.int .u64 (((m+n)/18446744073709551616:Nat):Int)])::t,L⟩ K):
 aX Tryz.prog bl ops (⟨some d,.call {callee:= .value (.func 238),args:= #[x,y,z],argTypes:=ts},ty,pos,af,g⟩::rest) ⟨nt,t,L⟩ K:=
 qf7 hd hg rfl (fun B a w hrel=>by
 have h1:(callFunc 238 #[.int .u64 (m:Int),.int .u64 (n:Int),.int .u64 0]).run Tryz.prog w= .ok (.value (.tuple #[.int .u64 (((m+n)%18446744073709551616:Nat):Int),.int .u64 (((m+n)/18446744073709551616:Nat):Int)])) w:=by
  rw[run_callFunc_extern Tryz.func238 (by kernel_rfl) (by kernel_rfl) (by kernel_rfl) (e:=add64Entry) (by kernel_rfl),run_add64 m n 0 (by omega) (by omega) (by omega) (by omega)];simp only[Result.andThen]
  congr 5<;>omega
 have hv:(#[x,y,z]:Array Operand).map a.eval= #[.int .u64 (m:Int),.int .u64 (n:Int),.int .u64 0]:=by
  show(([x,y,z]:List Operand).toArray).map a.eval=_;rw[List.map_toArray,List.map_cons,List.map_cons,List.map_cons,List.map_nil,hrel.ev hx,hrel.ev hy,hrel.ev hz]
 have hf:a.eval (.func 238)= .func (.func 238) #[] #[]:=rfl;simp only[execOp,resolve,hf,hv,Deferred.ofValue,invoke,Sem.run_bind,Sem.run_pure,Result.andThen_ok]
 simpa using h1) h
end Go.Proofs.YtaffcpfhedadhaaGreatDoor
namespace Go.Via
open Go
def qgD(a b:Int)(i:Nat)(h:i<2):([.int .i64 a,.int .i64 b]:List Value)[i]? =some (.int .i64 (if i=0 then a else b)):=by
 have:i=0∨i=1:=(by omega);rcases this with rfl|rfl<;>rfl
def qkJ(a b:Int)(i:Nat)(ha:0<i->a=0)(he:(if i=0 then a else b)=0):0<i+1->a=0:=fun _=>by
 by_cases h:i=0
 ·rwa [if_pos h] at he
 ·exact ha (by omega)
def qkK(a b:Int)(i:Nat)(he:(if i=0 then a else b)=0):1<i+1->b=0:=fun h=>by
 rwa [if_neg (by omega)] at he
theorem qdx(a b:Int)(i:Nat)(ha:0<i->a=0)(hne:(if i=0 then a else b)≠0):(if i=0 then a else b)=(if a=0 then b else a):=by
 by_cases h:i=0
 ·rw[if_pos h] at hne ⊢;rw[if_neg hne]
 ·rw[if_neg h] at hne ⊢;rw[if_pos (ha (by omega))]
theorem VR{m n:Nat}(h:nb m<nb n):m<n:=Cj (by omega) h
theorem QA(m n:Nat):(if(if(nb m:Int)<(nb n:Int) then(-1:Int) else if(nb n:Int)<(nb m:Int) then 1 else 0)=0 then Lib.compareBytes (bF m).data.toList (bF n).data.toList
 else(if(nb m:Int)<(nb n:Int) then(-1:Int) else if(nb n:Int)<(nb m:Int) then 1 else 0))=lZ m n:=by
 unfold lZ;rcases Nat.lt_trichotomy (nb m) (nb n) with h|h|h
 ·have:=VR h;rw[if_pos (by omega:(nb m:Int)<nb n),if_neg (by decide),if_pos this]
 ·rw[if_neg (by omega:¬(nb m:Int)<nb n),if_neg (by omega:¬(nb n:Int)<nb m),if_pos rfl,Qz h]
 ·have:=VR h;rw[if_neg (by omega:¬(nb m:Int)<nb n),if_pos (by omega:(nb n:Int)<nb m),if_neg (by decide),if_neg (by omega),if_pos this]
def qaa(m n:Nat):IntKind.i64.wrap (0-lZ m n)= -lZ m n:=by
 unfold lZ;split<;>(try split)<;>rfl
def VS{b:Int}(h:¬b<0):0<=b.sign:=by
 rcases Int.lt_trichotomy b 0 with h1|h1|h1
 ·exact absurd h1 h
 ·subst h1;decide
 ·rw[Int.sign_eq_one_of_pos h1];decide
def MF{a:Int}(h:a<0):a.sign= -1:=Int.sign_eq_neg_one_of_neg h
theorem qgE{a b:Int}(h:(decide (a<0) !=decide (b<0))=true):(if a.sign<b.sign then(-1:Int) else if b.sign<a.sign then 1 else 0)=xM a b:=by
 unfold xM
 by_cases ha:a<0<;>by_cases hb:b<0
 ·simp[ha,hb] at h
 ·have h1:=MF ha;have h2:0<=b.sign:=VS (by omega);rw[if_pos (by omega),if_pos (by omega)]
 ·have h1:=MF hb;have h2:0<=a.sign:=VS (by omega);rw[if_neg (by omega),if_pos (by omega),if_neg (by omega),if_pos (by omega)]
 ·simp[ha,hb] at h
theorem qdy{a b:Int}(h:(decide (a<0) !=decide (b<0))=false)(h2:decide (a<0)=true): -lZ a.natAbs b.natAbs=xM a b:=by
 have ha:=of_decide_eq_true h2;have hb:b<0:=(by simpa[ha] using h);unfold lZ xM
 by_cases c1:a<b
 ·rw[if_pos c1,if_neg (by omega),if_pos (by omega)]
 ·rw[if_neg c1]
  by_cases c2:b<a
  ·rw[if_pos c2,if_pos (by omega)];rfl
  ·rw[if_neg c2,if_neg (by omega),if_neg (by omega)];rfl
theorem qdz{a b:Int}(h:(decide (a<0) !=decide (b<0))=false)(h2:decide (a<0)=false):lZ a.natAbs b.natAbs=xM a b:=by
 have ha:=of_decide_eq_false h2;have hb:¬b<0:=(by simpa[ha] using h);unfold lZ xM
 by_cases c1:a<b
 ·rw[if_pos c1,if_pos (by omega)]
 ·rw[if_neg c1,if_neg (show¬a.natAbs<b.natAbs by omega)]
  by_cases c2:b<a
  ·rw[if_pos c2,if_pos (by omega)]
  ·rw[if_neg c2,if_neg (by omega)]
def X3(z:Int)(h:decide (z<0)=true):(if decide (z<0)=true then-(z.natAbs:Int) else(z.natAbs:Int))=z:=by
 rw[if_pos h];have:=of_decide_eq_true h;omega
def X4(z:Int)(h:decide (z<0)=false):(if decide (z<0)=true then-(z.natAbs:Int) else(z.natAbs:Int))=z:=by
 rw[if_neg (by rw[h];decide)];have:=of_decide_eq_false h;omega
def qab{l:List UInt8}(h:0<l.length):∃x r,l=x::r:=by cases l with
 |nil=>simp at h
 |cons x r=>exact⟨x,r,rfl⟩
def X5(x:UInt8)(r:List UInt8):(lw (x::r)).extract (1:Int).toNat (lw (x::r)).size=lw r:=by
 rw[wJ];show ByteArray.extract _ 1 _=_
 apply ByteArray.ext
 rw[ByteArray.data_extract];simp[lw]
theorem Uf{l:List UInt8}(h:(lw l==⟨#[]⟩)=true):l=[]:=by
 rw[xK] at h
 simpa[lw] using h
def Ps.cells(p:Ps):List Value:=[.string (lw p.s),.int .i64 (p.pos:Nat),.int .i64 (p.k:Nat),.int .i64 (p.at_:Nat),.string (lw p.tx),.int .i64 (p.bat:Nat),.int .i64 (p.be:Nat),.bool p.fail]
end Go.Via
namespace Go.Via
variable[Mo]
open Go Go.RowKit
def NB(l:Dw):List Value:=l.map fun b=> .int .u8 (b.toNat:Nat)
theorem MG(l:Dw):(NB l).length=l.length:=by simp[NB]
section
variable{P:Program}{bl:List Nat}{ops:Array Oper}{K:St->Prop}{rest:List Oper}{nt:Nat}{t:List (Nat×Value)}{L:List aF}{d:Nat}{ty:TypeId}{pos:String}{af:Array Edge}{g:Option (Nat×Bool)}{x y:Operand}
end
end Go.Via
namespace Go.Via
variable[Mo]
open Go Go.RowKit
abbrev Bs.put(B:Bs)(f:Nat)(vs:List Value):Bs:=⟨B.w,B.S,{target:= .fn (.func f) #[],args:=vs.toArray}::B.D⟩
structure Bd where
 b:Option Nat
 n:Nat
 cap:Nat
 s:Dw
def Bd.ok(d:Bd):Prop:=d.s.length<=d.cap∧d.cap<=d.n∧(d.b=none↔d.cap=0)
abbrev OB(m:Nat):={r:OR m 1 // r.b=none↔r.cap=0}
def OB.bd{m:Nat}(r:OB m)(s:Dw):Bd:=⟨r.1.b,r.1.n,r.1.cap,s⟩
def OB.ok{m:Nat}(r:OB m){s:Dw}(h:s.length=m):(r.bd s).ok:=⟨by show s.length<=r.1.cap;rw[h];exact r.1.h,by have:=r.1.hn;show r.1.cap<=r.1.n;omega,r.2⟩
theorem Bd.pos{d:Bd}(h:d.ok):d.b≠none->d.n≠0:=fun hb=>by
 have h1:=h.2.1;have h2:d.cap≠0:=fun e=>hb (h.2.2.2 e)
 omega
end Go.Via
namespace Go.Via
variable[Mo]
open Go Go.RowKit
theorem QB(a b:Dw):lw a++lw b=lw (a++b):=by
 apply ByteArray.ext
 simp[lw,ByteArray.data_append]
section
variable{P:Program}{bl:List Nat}{ops:Array Oper}{K:St->Prop}{rest:List Oper}{nt:Nat}{t:List (Nat×Value)}{L:List aF}{d:Nat}{ty:TypeId}{pos:String}{af:Array Edge}{g:Option (Nat×Bool)}{x y z:Operand}
def qgF{T U:Nat}{a b:ByteArray}{p q r:Dw}(hd:Nat.blt d nt=true)(hg:ax ops ⟨some d,.binOp .add T x y U,ty,pos,af,g⟩ t=some true)(hx:ev t x=some (.string a))(hy:ev t y=some (.string b))(ha:a=lw p)(hb:b=lw q)(hr:p++q=r)(hlen:p.length+q.length<=17179869184)
 (h:aX P bl ops rest ⟨nt,(d,.string (lw r))::t,L⟩ K):aX P bl ops (⟨some d,.binOp .add T x y U,ty,pos,af,g⟩::rest) ⟨nt,t,L⟩ K:=by
 subst ha;subst hb;subst hr;exact fM hd hg rfl (fun B a w hrel=>by
 have h1:=hrel.ev hx;have h2:=hrel.ev hy;have h3:=run_string_add_sum (P:=P) w (lw p) (lw q) (by rw[wJ,wJ];omega);rw[QB] at h3;simp[execOp,h1,h2,eqGuard,binOp,h3]) h
end
end Go.Via
namespace Go.Via
variable[Mo]
open Go Go.RowKit
def QC(L:List aF)(g:Nat):Prop:=FB L g∨∃b∈L,b.own=true∧b.base=none∧∃T:KU,Fe T=true∧b.e=gE T∧∃p∈T,p.1=g
def aT.rebaseG{B:Bs}{w:World}{L:List aF}(h:aT B L w):aT ⟨w,QC L,[]⟩ L w:=by
 refine⟨⟨rfl,rfl,rfl,Nat.le_refl _,fun _ _ _=>rfl,fun _=>Nat.le_refl _⟩,fun k b hk=>?_,h.apart,fun b hb hn T hT he p hp=>?_⟩
 ·obtain⟨h1,h2⟩:=h.blk k b hk;exact⟨fun g hg=>⟨(h1 g hg).1,fun ho=> .inr (.inl ⟨b,List.mem_of_getElem? hk,ho,hg⟩)⟩,h2⟩
 ·obtain⟨a1,_,a3⟩:=h.grp b hb hn T hT he p hp;exact⟨a1,fun ho=> .inr (.inr ⟨b,hb,ho,hn,T,hT,he,p,hp,rfl⟩),a3⟩
def aT.joinN{B:Bs}{w w':World}{A R new:List aF}(h:aT B (A++R) w)(h':aT ⟨w,QC A,[]⟩ new w')(hA:∀b∈A,b.own=true)(hn:∀b∈new,b.own=true)(hR:∀c∈R,c.own=true∧c.base.isSome=true):aT B (new++R) w':=by
 have hS:∀g,QC A g->B.own g:=fun g hg=>by
  rcases hg with⟨b,hb,ho,hg⟩|⟨b,hb,ho,hb0,T,hT,he,p,hp,rfl⟩
  ·exact h.ownG (List.mem_append_left _ hb) ho hg
  ·exact(h.grp b (List.mem_append_left _ hb) hb0 T hT he p hp).2.1 ho
 have hle:Bs.le B ⟨w,QC A,[]⟩:=fun g hg=>by
  rcases hg with hg|hg
  ·exact .inl (Nat.le_trans h.bel.size hg)
  ·exact hS g hg
 have keep:∀g,g<w.heap.size->¬QC A g->w'.heap[g]? =w.heap[g]? :=fun g hg hS'=>h'.bel.block g hg hS'
 have apR:∀c∈R,∀g,c.base=some g->¬QC A g:=fun c hc g hg hq=>by
  rcases hq with⟨b,hb,ho,hbg⟩|⟨b,hb,ho,hb0,T,hT,he,p,hp,rfl⟩
  ·obtain⟨i,hi⟩:=List.mem_iff_getElem?.1 hb;obtain⟨j,hj⟩:=List.mem_iff_getElem?.1 hc;have hil:=(List.getElem?_eq_some_iff.1 hi).1;exact h.apart i (A.length+j) g b c (by omega) (by rw[List.getElem?_append_left hil];exact hi) (by rw[List.getElem?_append_right (by omega),Nat.add_sub_cancel_left];exact hj) ho hbg hg
  ·exact(h.grp b (List.mem_append_left _ hb) hb0 T hT he p hp).2.2 c (List.mem_append_right _ hc) (hR c hc).1 hg
 have ownN:∀b∈new,∀g,b.base=some g->w.heap.size<=g∨QC A g:=fun b hb g hg=>by
  obtain⟨k,hk⟩:=List.mem_iff_getElem?.1 hb;exact((h'.blk k b hk).1 g hg).2 (hn b hb)
 have farN:∀b∈new,∀g,b.base=some g->∀c∈R,c.base≠some g:=fun b hb g hg c hc hcg=>by
  rcases ownN b hb g hg with h1|h1
  ·have:=h.ltG (List.mem_append_right _ hc) hcg;omega
  ·exact apR c hc g hcg h1
 refine⟨⟨h'.bel.os.trans h.bel.os,h'.bel.tape.trans h.bel.tape,h'.bel.output.trans h.bel.output,Nat.le_trans h.bel.size h'.bel.size,fun k hk hk'=>?_,fun m=>Nat.le_trans (h.bel.drawn m) (h'.bel.drawn m)⟩,fun k b hk=>?_,fun i j g bi bj hij hi hj ho hg hgj=>?_,fun b hb hb0 T hT he p hp=>?_⟩
 ·have h1:¬QC A k:=fun hq=>by
   rcases hS k hq with h2|h2
   ·omega
   ·exact hk' h2
  exact(keep k (Nat.lt_of_lt_of_le hk h.bel.size) h1).trans (h.bel.block k hk hk')
 ·rw[List.getElem?_append] at hk
  split at hk
  ·obtain⟨a1,a2⟩:=h'.blk k b hk;exact⟨fun g hg=>⟨(a1 g hg).1,fun ho=>hle _ ((a1 g hg).2 ho)⟩,a2⟩
  ·have hbR:=List.mem_of_getElem? hk;obtain⟨j,hj⟩:=List.mem_iff_getElem?.1 hbR;obtain⟨a1,a2⟩:=h.blk (A.length+j) b (by rw[List.getElem?_append_right (by omega),Nat.add_sub_cancel_left];exact hj);exact⟨fun g hg=>(a1 g hg).heap (keep g (a1 g hg).lt (apR b hbR g hg)),a2⟩
 ·rw[List.getElem?_append] at hi hj
  split at hi<;>split at hj
  ·exact h'.apart i j g bi bj hij hi hj ho hg hgj
  ·exact farN bi (List.mem_of_getElem? hi) g hg bj (List.mem_of_getElem? hj) hgj
  ·exact farN bj (List.mem_of_getElem? hj) g hgj bi (List.mem_of_getElem? hi) hg
  ·exact h.apart (A.length+(i-new.length)) (A.length+(j-new.length)) g bi bj (by omega) (by rw[List.getElem?_append_right (by omega),Nat.add_sub_cancel_left];exact hi) (by rw[List.getElem?_append_right (by omega),Nat.add_sub_cancel_left];exact hj) ho hg hgj
 ·rcases List.mem_append.1 hb with hb|hb
  ·obtain⟨a1,a2,a3⟩:=h'.grp b hb hb0 T hT he p hp;refine⟨a1,fun ho=>hle _ (a2 ho),fun c hc ho hg=>?_⟩
   rcases List.mem_append.1 hc with hc|hc
   ·exact a3 c hc ho hg
   ·rcases a2 (hn b hb) with h1|h1
    ·have h1:w.heap.size<=p.1:=h1;have:=h.ltG (List.mem_append_right _ hc) hg;omega
    ·exact apR c hc _ hg h1
  ·have:=(hR b hb).2;rw[hb0] at this;cases this
section
variable{P:Program}{bl:List Nat}{ops:Array Oper}{K:St->Prop}{rest:List Oper}{nt:Nat}{t:List (Nat×Value)}{L:List aF}{d:Nat}{ty:TypeId}{pos:String}{af:Array Edge}{g:Option (Nat×Bool)}{x y:Operand}
def yx.atN{P:Program}{f:Nat}{L A:List aF}{args:List Value}{X:Type}{res:X->Value}{L1:X->List aF}(hc:yx P f A args X res L1)(ks:List Nat)(hn:ks.Nodup)(hk:ks.map (fun k=>L[k]?)=A.map some)
 (hA:(A.all fun b=>b.own)=true)(hR:((ZH L ks).all fun b=>b.own&&b.base.isSome)=true)(hap:kK (ks.map some) (A.map (·.own))=true)(hlen:∀x,Nat.ble ks.length (L1 x).length=true)(hown:∀x,((L1 x).all fun b=>b.own)=true)
 {B:Bs}{w:World}(h:aT B L w):Calls P f args.toArray w fun e w'=>∃x,e= .returned (res x)∧aT B (setG L ks (L1 x)) w':=by
 have hl:∀k∈ks,k<L.length:=fun k hk'=>by
  obtain⟨i,hi⟩:=List.mem_iff_getElem?.1 hk';have h1:(ks.map fun k=>L[k]?)[i]? =some L[k]? :=by rw[List.getElem?_map,hi];rfl
  rw[hk,List.getElem?_map] at h1;obtain⟨b,_,hb⟩:=Option.map_eq_some_iff.1 h1;exact(List.getElem?_eq_some_iff.1 hb.symm).1
 have hlen0:A.length=ks.length:=(by have:=congrArg List.length hk;simpa using this.symm);have pA:∀(ks:List Nat) (A:List aF),ks.map (fun k=>L[k]?)=A.map some->iJ L (ks.map some) A:=by
  intro ks
  induction ks with
  |nil=>intro A h;cases A with
   |nil=>exact trivial
   |cons=>simp at h
  |cons k ks ih=>intro A h;cases A with
   |nil=>simp at h
   |cons a A=>
    simp only[List.map_cons,List.cons.injEq] at h;exact⟨⟨a,h.1,a.le_refl⟩,ih A h.2⟩
 have h1:=h.picks (ks.map some) (pA ks A hk) (by simp[hlen0]) hap;have h2:=h1.rebaseG;have hp0:=FC (L:=L) hn hl hlen0;rw[FD hk] at hp0;have hL:=h.perm hp0;refine(hc.2 _ w rfl h2).mono ?_;rintro e w' ⟨x,rfl,hx⟩;refine⟨x,rfl,?_⟩;have h3:=hL.joinN hx (fun b hb=>List.all_eq_true.1 hA b hb) (fun b hb=>List.all_eq_true.1 (hown x) b hb) (fun c hc=>by
 have:=List.all_eq_true.1 hR c hc
 simpa using this)
 exact h3.perm (LV hn hl (Nat.le_of_ble_eq_true (hlen x))).symm
end
end Go.Via
namespace Go.Via
variable[Mo]
open Go Go.RowKit
section
variable{P:Program}{bl:List Nat}{ops:Array Oper}{K:St->Prop}{rest:List Oper}{nt:Nat}{t:List (Nat×Value)}{L:List aF}{d:Nat}{ty:TypeId}{pos:String}{af:Array Edge}{g:Option (Nat×Bool)}{x y:Operand}
def FQ{f:Nat}{args:List Operand}{ts:Array TypeId}{dst:Option Nat}(vs caps:List Value){A C:List aF}{X:Type}{res:X->Value}{L1:X->List aF}(ks is:List Nat)(mk:X->List aF)(hM:Il bl=true)(hd:(match dst with|some d=>Nat.blt d nt|none=>true)=true)
 (hg:ax ops ⟨dst,.call {callee:= .value x,args:=args.toArray,argTypes:=ts},ty,pos,af,g⟩ t=some true)(hf:ev t x=some (.func (.func f) #[] caps.toArray))
 (hv:args.map (ev t)=vs.map some)(hc:yx P f (A++C) (vs++caps) X res L1)(hn:ks.Nodup)(hk:ks.map (fun k=>L[k]?)=A.map some)(hA:(A.all fun b=>b.own&&(Nat.blt b.e bW||b.base.isSome))=true)(hp:iJ L (is.map some) C)(hC:(C.all fun b=> !b.own)=true)(hap:kK ((ks++is).map some) ((A++C).map (·.own))=true)
 (hlen:∀x,Nat.ble ks.length (L1 x).length=true)(hown:∀x,∀b∈L1 x,b.own=true∨∃a∈A,a.base=b.base∧b.base.isSome=true)(hL:∀x,setG L ks (L1 x)=mk x)
 (h:∀x,aX P bl ops rest (({nt:=nt,t:=t,L:=mk x}:St).put dst (res x)) K):
 aX P bl ops (⟨dst,.call {callee:= .value x,args:=args.toArray,argTypes:=ts},ty,pos,af,g⟩::rest) ⟨nt,t,L⟩ K:=
 Zm hd hg hM (X:=X) (nx:=fun x=>({nt:=nt,t:=t,L:=mk x}:St).put dst (res x)) (fun hd' B a w hr=>by
 have h1:(execOp a.eval ⟨dst,.call {callee:= .value x,args:=args.toArray,argTypes:=ts},ty,pos,af,g⟩).run P w= .ok (.enter f (vs++caps).toArray) w:=by
  have hfv:=hr.ev hf;have hva:args.toArray.map a.eval=vs.toArray:=(by simp[nJ hr hv]);have hp:=hc.1;unfold iF at hp;cases hq:P.funcs[f]? with
  |none=>rw[hq] at hp;cases hp
  |some fn=>
   rw[hq] at hp;simp only[Bool.and_eq_true,Bool.not_eq_true'] at hp;obtain⟨h1,h2⟩:=hp;have h3:fn.body≠none:=by intro hb;rw[hb] at h1;cases h1
   have h4:¬fn.name= "runtime.NumGoroutine" :=(by simpa using h2);simp[execOp,resolve,hfv,hva,Deferred.ofValue,invoke,callFunc,hq,h4,h3]
 unfold Oper.wp;rw[h1];refine(hc.at ks is hn hk hA hp hC hap hlen hown hr.mem).mono ?_;rintro e w' ⟨x,rfl,hw⟩;refine⟨x,?_⟩;rw[hL] at hw;exact hr.put hd' hw) h
end
end Go.Via
namespace Go.Via
variable[Mo]
open Go Go.RowKit
section
variable{P:Program}{bl:List Nat}{ops:Array Oper}{K:St->Prop}{rest:List Oper}{nt:Nat}{t:List (Nat×Value)}{L:List aF}{d:Nat}{ty:TypeId}{pos:String}{af:Array Edge}{g:Option (Nat×Bool)}{x y:Operand}
def fO{f:Nat}{args:List Operand}{ts:Array TypeId}(vs:List Value){v:Value}(hd:Nat.blt d nt=true)(hg:ax ops ⟨some d,.call {callee:= .value x,args:=args.toArray,argTypes:=ts},ty,pos,af,g⟩ t=some true)
 (hf:ev t x=some (.func (.func f) #[] #[]))(hv:args.map (ev t)=vs.map some)(hc:aH P f vs.toArray v)(h:aX P bl ops rest ⟨nt,(d,v)::t,L⟩ K):
 aX P bl ops (⟨some d,.call {callee:= .value x,args:=args.toArray,argTypes:=ts},ty,pos,af,g⟩::rest) ⟨nt,t,L⟩ K:=
 ZG (caps:=[]) (L0:=[]) vs [] hd hg hf hv ⟨hc.1,fun w hL=>by
 have:=hc.2 w;rw[List.append_nil];exact this.mono (by rintro e w' ⟨rfl,hb⟩;exact⟨(),rfl,⟨.of hb,fun k b hk=>by simp at hk,fun i j g bi bj hij hi=>by simp at hi,lS.nil _ _⟩⟩)⟩ (by exact trivial) rfl h
def QD{T:Nat}{v:Value}(hd:Nat.blt d nt=true)(hg:ax ops ⟨some d,.makeInterface T x,ty,pos,af,g⟩ t=some true)(hx:ev t x=some v)(hm:∀w,(Instr.makeInterface T v).run P w= .ok (.iface T v) w)
 (h:aX P bl ops rest ⟨nt,(d,.iface T v)::t,L⟩ K):aX P bl ops (⟨some d,.makeInterface T x,ty,pos,af,g⟩::rest) ⟨nt,t,L⟩ K:=
 fM hd hg rfl (fun B a w hr=>by simp[execOp,hr.ev hx,hm w]) h
def sD{n:String}{v:Value}(hd:Nat.blt d nt=true)(hg:ax ops ⟨some d,.makeFunc (.method n) #[x] #[],ty,pos,af,g⟩ t=some true)(hx:ev t x=some v)(u:Value)(hm:∀w,(Instr.makeFunc (.method n) #[v] #[]).run P w= .ok u w)(h:aX P bl ops rest ⟨nt,(d,u)::t,L⟩ K):
 aX P bl ops (⟨some d,.makeFunc (.method n) #[x] #[],ty,pos,af,g⟩::rest) ⟨nt,t,L⟩ K:=
 fM hd hg rfl (fun B a w hr=>by simp[execOp,hr.ev hx,hm w]) h
def uS{n:String}{T:Nat}{u:Value}(hd:Nat.blt d nt=true)(hg:ax ops ⟨some d,.nilCheck x,ty,pos,af,g⟩ t=some true)(hx:ev t x=some (.func (.method n) #[.iface T u] #[]))(hm:∀w,(nilAhead (P.types.size+Made.depth) T u n).run P w= .ok (some false) w)
 (h:aX P bl ops rest ⟨nt,(d,.func (.method n) #[.iface T u] #[])::t,L⟩ K):aX P bl ops (⟨some d,.nilCheck x,ty,pos,af,g⟩::rest) ⟨nt,t,L⟩ K:=
 fM hd hg rfl (fun B a w hr=>by
 have hp0:Sem.run P (Sem.program Sem.pure) w= .ok P w:=rfl;simp[execOp,hr.ev hx,program,hp0,hm w]) h
def Az{f:Nat}{n:String}{args:List Operand}{ts:Array TypeId}(T:Nat)(u r:Value)(vs:List Value){v:Value}(hd:Nat.blt d nt=true)(hg:ax ops ⟨some d,.call {callee:= .invoke x n,args:=args.toArray,argTypes:=ts},ty,pos,af,g⟩ t=some true)
 (hf:ev t x=some (.iface T u))(hm:∀w,(method (P.types.size+Made.depth) T u n).run P w= .ok (f,r) w)(hv:args.map (ev t)=vs.map some)(hc:aH P f (r::vs).toArray v)(h:aX P bl ops rest ⟨nt,(d,v)::t,L⟩ K):
 aX P bl ops (⟨some d,.call {callee:= .invoke x n,args:=args.toArray,argTypes:=ts},ty,pos,af,g⟩::rest) ⟨nt,t,L⟩ K:=
 LH hd hg rfl rfl (X:=Unit) (nx:=fun _=>⟨nt,(d,v)::t,L⟩) (fun hd' B a w hr=>by
 have h1:(execOp a.eval ⟨some d,.call {callee:= .invoke x n,args:=args.toArray,argTypes:=ts},ty,pos,af,g⟩).run P w= .ok (.enter f (r::vs).toArray) w:=by
  have hfv:=hr.ev hf;have hva:args.toArray.map a.eval=vs.toArray:=(by simp[nJ hr hv]);have hp:=hc.1;have hmw:=hm w;unfold iF at hp;cases hq:P.funcs[f]? with
  |none=>rw[hq] at hp;cases hp
  |some fn=>
   rw[hq] at hp;simp only[Bool.and_eq_true,Bool.not_eq_true'] at hp;obtain⟨h1,h2⟩:=hp;have h3:fn.body≠none:=by intro hb;rw[hb] at h1;cases h1
   have h4:¬fn.name= "runtime.NumGoroutine" :=(by simpa using h2);have hp0:Sem.run P (Sem.program Sem.pure) w= .ok P w:=rfl;simp[execOp,resolve,hfv,hva,invoke,callMethod,program,hp0,hmw,callFunc,hq,h4,h3]
 unfold Oper.wp;rw[h1];refine(hc.2 w).mono ?_;rintro e w' ⟨rfl,hw⟩;exact⟨(),hr.put hd' (hr.mem.same hw)⟩) fun _=>h
end
end Go.Via
namespace Go.Via
variable[Mo]
open Go Go.RowKit
def elW(P:Program)(e:Nat)(s:Nat)(z:Value):Prop:=((P.info? e).map fun inf=>(inf.size,Nat.ble inf.bytes 1024,inf.zero))=some (s,true,some z)∧e<bW
section
variable{P:Program}{bl:List Nat}{ops:Array Oper}{K:St->Prop}{rest:List Oper}{nt:Nat}{t:List (Nat×Value)}{L:List aF}{d:Nat}{ty:TypeId}{pos:String}{af:Array Edge}{g:Option (Nat×Bool)}{x y:Operand}
def qac{e s:Nat}{z:Value}(h:elW P e s z):∃inf,P.info? e=some inf∧inf.zero=some z∧inf.size=s∧inf.bytes<=1024:=by
 unfold elW at h;replace h:=h.1;cases hq:P.info? e with
 |none=>rw[hq] at h;cases h
 |some inf=>
  rw[hq] at h;simp at h;exact⟨inf,rfl,h.2.2,h.1,h.2.1⟩
def MH{T e s:Nat}{z:Value}{b:aF}{len cap b2o n2 c2:Nat}{b2:aF}(k k2:Nat)(mk:AR (len+n2) s->List aF)(hT:P.underlying T=some (.slice e))(hi:elW P e s z)(hd:Nat.blt d nt=true)
 (hg:ax ops ⟨some d,.call {callee:= .builtin .append,args:= #[x,y],argTypes:= #[T,T]},ty,pos,af,g⟩ t=some true)
 (hk:L[k]? =some b)(ho:b.own=true)(he:b.e=e)(hx:ev t x=some (aI b.base 0 len cap))(hk2:L[k2]? =some b2)(hb2:b2.base=some b2o)(hy:ev t y=some (aI (some b2o) 0 n2 c2))(hs:Nat.blt 0 s=true)(hzs:z.cells.size=s)(hpos:Nat.blt 0 n2=true)
 (hlen:b.cs.length=len*s)(hcap:len<=cap)(hn:cap*s<=b.n)(hlen2:b2.cs.length=n2*s)(h1:∀v∈b2.cs,v.oneCell'=true)(hmax:len+n2<=17179869184)
 (hL:∀r,L.set k ⟨some r.g,e,b.cs++b2.cs,r.n,true⟩=mk r)
 (h:∀r:AR (len+n2) s,aX P bl ops rest ⟨nt,(d,aI (some r.g) 0 (len+n2) r.cap)::t,mk r⟩ K):
 aX P bl ops (⟨some d,.call {callee:= .builtin .append,args:= #[x,y],argTypes:= #[T,T]},ty,pos,af,g⟩::rest) ⟨nt,t,L⟩ K:=by
 obtain⟨inf,i1,i2,i3,i5⟩:=qac hi;subst i3;exact P8 hi.2 k k2 mk hT i1 i2 (by simpa using hs) hzs (by omega) hd hg hk ho he hlen hcap hn hx hk2 hlen2 (by simpa using hpos) hb2 hy h1 hmax hL h
end
def gm{B:Bs}{nt:Nat}{t:List (Nat×Value)}{L:List aF}{Q:Act->World->Prop}(k:Nat){b:Option Nat}{e n:Nat}{cs:List Value}{o:Bool}(hk:L[k]? =some ⟨b,e,cs,n,o⟩)(hcs:cs≠[])(h:b.isSome=true->At B ⟨nt,t,L⟩ Q):At B ⟨nt,t,L⟩ Q:=fun a w hr=>h (by
 cases b with
 |none=>exact absurd ((hr.mem.blk k _ hk).2 rfl).1 hcs
 |some g=>rfl) a w hr
end Go.Via
namespace Go.Via
variable[Mo]
open Go Go.RowKit
def sF{P:Program}{B:Bs}{s:St}{Q:Exit->Act->World->Prop}{x y:Code}{nt:Nat}{X:Type}(T:X->List (Nat×Value))(LL:X->List aF)
 (h1:At B s (x.wp P (Exit.then (fun a w=>∃z,kD B ⟨nt,T z,LL z⟩ a w) Q)))(h2:∀z,At B ⟨nt,T z,LL z⟩ (y.wp P Q)):At B s ((Code.seq x y).wp P Q):=
 TB fun a w hr=>Code.wp_mono (fun e a w h=>by
 cases e with
 |normal=>obtain⟨z,h⟩:=h;exact h2 z a w h
 |_=>exact h) (h1 a w hr)
def Jw{B:Bs}{nt:Nat}{t:List (Nat×Value)}{L:List aF}{X:Type}{T:X->List (Nat×Value)}{LL:X->List aF}(z:X)(lk:jE t (T z))(hw:eF L (LL z)):At B ⟨nt,t,L⟩ (fun a w=>∃z,kD B ⟨nt,T z,LL z⟩ a w):=fun a w hr=>
 ⟨z,hr.df,hr.size,fun d v hd=>hr.tmp d v (lk.mem (d,v) (tq hd)),hw _ _ hr.mem⟩
end Go.Via
namespace Go.Via
variable[Mo]
open Go Go.RowKit
def zA(n:Nat)(R:List Nat):Array Bool:=((List.range n).map fun j=> !R.contains j).toArray
theorem Jy{n:Nat}{R:List Nat}{j:Nat}:(zA n R)[j]? =if j<n then some (!R.contains j) else none:=by
 unfold zA;simp[List.getElem?_map,List.getElem?_range]
 split<;>simp_all
theorem QE{n:Nat}{R:List Nat}{i:Nat}:(zA n R).setIfInBounds i true=zA n (R.filter (· !=i)):=by
 refine Array.ext_getElem? fun j=>?_
 rw[Array.getElem?_setIfInBounds,Jy,Jy];have hs:(zA n R).size=n:=by simp[zA]
 rw[hs]
 by_cases e:i=j
 ·subst e
  by_cases h:i<n
  ·simp[h]
  ·simp[h]
 ·rw[if_neg e];have:(R.filter (· !=i)).contains j=R.contains j:=by
   rw[Bool.eq_iff_iff];simp[List.mem_filter];exact fun _ h=>e h.symm
  rw[this]
theorem qad{n:Nat}:Array.replicate n false=zA n (List.range n):=by
 refine Array.ext_getElem? fun j=>?_
 rw[Jy,Array.getElem?_replicate]
 split
 ·rename_i h;simp[h]
 ·rfl
def vO(P:Program)(ops:Array Oper)(X:Act->World->Prop)(B:Bs)(n:Nat)(R:List Nat)(s:St):Prop:=∀a w,kD B s a w->wpAny P .any ops (uJ X) n (zA ops.size R) a w
section
variable{P:Program}{ops:Array Oper}{X:Act->World->Prop}{B:Bs}{n:Nat}{R:List Nat}
def qgG{s:St}(h:Region.ready .any ops (zA ops.size R)=[])(hk:At B s X):vO P ops X B 0 R s:=fun a w hr=>⟨h,hk a w hr⟩
def jF{s:St}(l:List Nat)(h1:Region.ready .any ops (zA ops.size R)=l)(h2:l.isEmpty=false)
 (h:BB (fun i=>∃o,ops[i]? =some o∧aX P [1000000] ops [o] s (fun s'=>vO P ops X B n (R.filter (· !=i)) s')) l):vO P ops X B (n+1) R s:=fun a w hr=>by
 refine⟨fun h0=>?_,fun i hi=>?_⟩
 ·rw[h1] at h0;subst h0;cases h2
 ·rw[h1] at hi;obtain⟨o,ho,hs⟩:=h.mem i hi;have:=iD.sound (K':=fun a' w'=>wpAny P .any ops (uJ X) n ((zA ops.size R).setIfInBounds i true) a' w') (Q:=uJ X) hs hr (fun s' a' w' hk hr'=>by rw[QE];exact hk a' w' hr')
  unfold wpOp;rw[ho];dsimp only
  split
  ·rename_i hw;rw[if_pos hw] at this;exact .inl this
  ·rename_i hw;rw[if_neg hw] at this;exact this
def qdA{nt:Nat}{t:List (Nat×Value)}{L:List aF}(i:Nat){l':List Oper}(hc:(Region.noSelect ops&&Ap ops (zA ops.size R) [i])=true)(hl:[ops.getD i default]=l')
 (h:aX P [] ops l' ⟨nt,t,[]⟩ (fun s'=>vO P ops X B n (R.filter (· !=i)) ⟨nt,s'.t,L⟩)):vO P ops X B (n+1) R ⟨nt,t,L⟩:=fun a w hr=>by
 simp only[Bool.and_eq_true] at hc;subst hl;have:=y5 (P:=P) (B:=B) (w:=w) (nt:=nt) (L:=L) (n:=n) (X:=X) hc.1 (G:=fun t listed=>vO P ops X B n (R.filter (· !=i)) ⟨nt,t,L⟩∧listed=zA ops.size (R.filter (· !=i)))
  (fun t listed a hG hrel=>by rw[hG.2];exact hG.1 a w hrel) [i] (zA ops.size R) t a hc.2 (aX.mono (fun s' h=>⟨h,by simp only[List.foldl];exact QE⟩) h) hr
 rw[show[i].length+n=n+1 by simp;omega] at this;exact this
def qdB{nt:Nat}{t:List (Nat×Value)}{L:List aF}{Z:Type}{T:Z->List (Nat×Value)}{LL:Z->List aF}(h:∀z,vO P ops X B n R ⟨nt,T z,LL z⟩)(z:Z)(lk:jE t (T z))(hw:eF L (LL z)):vO P ops X B n R ⟨nt,t,L⟩:=
 fun a w hr=>h z a w ⟨hr.df,hr.size,fun d v hd=>hr.tmp d v (lk.mem (d,v) (tq hd)),hw _ _ hr.mem⟩
def iH{nt:Nat}{Z:Type}(T:Z->List (Nat×Value))(LL:Z->List aF)(m:Nat)(R':List Nat){s:St}(h:∀z,vO P ops X B m R' ⟨nt,T z,LL z⟩)(k:(∀z,vO P ops X B m R' ⟨nt,T z,LL z⟩)->vO P ops X B n R s):vO P ops X B n R s:=k h
end
def X6{P:Program}{B:Bs}{Q:Exit->Act->World->Prop}{s:St}{id:Nat}{l:List Oper}(n:Nat)(R:List Nat)(hm:P.follows .mixedOrders=true)(hn:(l.length==n&&R==List.range n)=true)
 (h:vO P l.toArray (Q .normal) B n R s):At B s ((Code.region id l.toArray true).wp P Q):=fun a w hr=>by
 simp only[Bool.and_eq_true,beq_iff_eq] at hn;obtain⟨rfl,rfl⟩:=hn;refine wp_region_any hm ?_;have hsz:l.toArray.size=l.length:=by simp
 refine qY (Q:=uJ (Q .normal)) (Q':=Q) (fun _ _ h=>h) (fun _ _ _ h=>h.elim) (fun⟨_,_,h⟩=>h.elim) _ _ _ _ ?_;rw[qad];have:=h a _ hr.drew;rw[hsz] at*;exact this
end Go.Via
namespace Go.Via
open Go Go.RowKit
def MI{P:Program}{B:Bs}{Q:Exit->Act->World->Prop}{nt:Nat}{t:List (Nat×Value)}{L:List aF}{id:Nat}{l:List Oper}{Z:Type}(T:Z->List (Nat×Value))(LL:Z->List aF)(n:Nat)(R:List Nat)(hm:P.follows .mixedOrders=true)
 (hn:(l.length==n&&R==List.range n&&(Region.ready .any l.toArray (zA l.toArray.size [])).isEmpty)=true)
 (h:(∀z,vO P l.toArray (Q .normal) B 0 [] ⟨nt,T z,LL z⟩)->vO P l.toArray (Q .normal) B n R ⟨nt,t,L⟩)(hk:∀z,At B ⟨nt,T z,LL z⟩ (Q .normal)):At B ⟨nt,t,L⟩ ((Code.region id l.toArray true).wp P Q):=by
 rw[Bool.and_eq_true] at hn;exact X6 n R hm hn.1 (h fun z=>qgG (List.isEmpty_iff.1 hn.2) (hk z))
end Go.Via
