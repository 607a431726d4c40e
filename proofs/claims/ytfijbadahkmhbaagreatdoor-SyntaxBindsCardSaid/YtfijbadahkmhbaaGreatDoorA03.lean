/-
  Part 3 (chapter 43): lemmas, walks. Each theorem states its own conditions.
-/
import Derived.Test.YtfijbadahkmhbaaGreatDoorProg
import Derived.Deep.Upon
import Derived.Laws.Small
import Derived.WideKeyEntry
import Derived.Test.YtfijbadahkmhbaaGreatDoorA02
set_option linter.unusedVariables false
set_option linter.unusedSimpArgs false
set_option maxRecDepth 20000
set_option maxHeartbeats 20000000
namespace Go.Via
open Go Go.RowKit
def ForR(Q:Nat→Prop):List Nat→Prop
 |[]=>True
 |i::l=>Q i∧ForR Q l
theorem ForR.mem{Q:Nat→Prop}:∀{l:List Nat},ForR Q l→∀i∈l,Q i
 |[],_,i,h=>by cases h
 |j::l,hh,i,h=>by
  rcases List.mem_cons.1 h with rfl|h
  ·exact hh.1
  ·exact ForR.mem hh.2 i h
def Tree(P:Program)(ops:Array Oper)(K:St→Prop):Nat→Array Bool→St→Prop
 |0,listed,s=>Region.ready .any ops listed=[]∧K s
 |n+1,listed,s=>∃l:List Nat,Region.ready .any ops listed=l∧l.isEmpty=false∧ForR (fun i=>∃o,ops[i]? =some o∧Run P [1000000] ops [o] s (fun s'=>Tree P ops K n (listed.setIfInBounds i true) s')) l
theorem wp_tree{P:Program}{ops:Array Oper}{Q:Exit→Act→World→Prop}{K:St→Prop}{B:Bs}(hpost:∀s' a' w',K s'→Rel B s' a' w'→Q .normal a' w'):
 ∀(n:Nat) (listed:Array Bool) (s:St) (a:Act) (w:World),Tree P ops K n listed s→Rel B s a w→wpAny P .any ops Q n listed a w
 |0,listed,s,a,w,h,hr=>⟨h.1,hpost _ _ _ h.2 hr⟩
 |n+1,listed,s,a,w,h,hr=>by
  obtain⟨l,h1,h2,h3⟩:=h
  refine⟨fun h0=>?_,fun i hi=>?_⟩
  ·rw[h1] at h0;subst h0;cases h2
  ·rw[h1] at hi
   obtain⟨o,ho,hs⟩:=h3.mem i hi
   have:=Step.sound (K':=fun a' w'=>wpAny P .any ops Q n (listed.setIfInBounds i true) a' w') (Q:=Q) hs hr (fun s' a' w' hk hr'=>wp_tree hpost n _ s' a' w' hk hr')
   unfold wpOp
   rw[ho]
   dsimp only
   split
   ·rename_i hw;rw[if_pos hw] at this;exact .inl this
   ·rename_i hw;rw[if_neg hw] at this;exact this
theorem at_tree{P:Program}{B:Bs}{Q:Exit→Act→World→Prop}{nt:Nat}{t:List (Nat×Value)}{L:List Blk}{id:Nat}{l:List Oper}(T:List (Nat×Value))(L':List Blk)(hm:P.follows .mixedOrders=true)
 (h:Tree P l.toArray (fun s'=>s'.nt=nt∧LookAll s'.t T∧s'.L=L') l.toArray.size (Array.replicate l.toArray.size false) ⟨nt,t,L⟩)(hk:At B ⟨nt,T,L'⟩ (Q .normal)):
 At B ⟨nt,t,L⟩ ((Code.region id l.toArray true).wp P Q):=fun a w hr=>by
 refine wp_region_any hm ?_
 refine wp_tree (K:=fun s'=>s'.nt=nt∧LookAll s'.t T∧s'.L=L') (B:=B) (fun s' a' w' hK hrel=>?_) _ _ ⟨nt,t,L⟩ a _ h hr.drew
 obtain⟨h1,h2,h3⟩:=hK
 refine hk a' w' ?_
 have:=hrel.sub (t:=T) fun d v hd=>h2.mem (d,v) (look_mem hd)
 rw[h1,h3] at this
 exact this
theorem t_node{P:Program}{ops:Array Oper}{K:St→Prop}{n:Nat}{listed:Array Bool}{s:St}(l:List Nat)(h1:Region.ready .any ops listed=l)(h2:l.isEmpty=false)
 (h:ForR (fun i=>∃o,ops[i]? =some o∧Run P [1000000] ops [o] s (fun s'=>Tree P ops K n (listed.setIfInBounds i true) s')) l):Tree P ops K (n+1) listed s:=⟨l,h1,h2,h⟩
end Go.Via
namespace Go.Proofs.YtfijbadahkmhbaaGreatDoor
open Go Go.RowKit Go.Via
theorem mixed:Tryz.prog.follows .mixedOrders=true:=by kernel_rfl
theorem ti3:tiOK Tryz.prog 3 ⟨false,1,[]⟩=true:=by kernel_rfl
theorem ti5:tiOK Tryz.prog 5 ⟨false,1,[]⟩=true:=by kernel_rfl
theorem ti9:tiOK Tryz.prog 9 ⟨false,1,[]⟩=true:=by kernel_rfl
theorem ti25:tiOK Tryz.prog 25 ⟨true,2,[(0,1),(1,1)]⟩=true:=by kernel_rfl
theorem ti27:tiOK Tryz.prog 27 ⟨true,4,[(0,2),(2,2)]⟩=true:=by kernel_rfl
theorem ti30:tiOK Tryz.prog 30 ⟨true,7,[(0,1),(1,1),(2,4),(6,1)]⟩=true:=by kernel_rfl
theorem ti39:tiOK Tryz.prog 39 ⟨true,9,[(0,1),(1,1),(2,7)]⟩=true:=by kernel_rfl
theorem ti92:tiOK Tryz.prog 92 ⟨true,3,[(0,1),(1,1),(2,1)]⟩=true:=by kernel_rfl
theorem ti94:tiOK Tryz.prog 94 ⟨true,4,[(0,1),(1,1),(2,1),(3,1)]⟩=true:=by kernel_rfl
theorem ti110:tiOK Tryz.prog 110 ⟨true,3,[(0,1),(1,1),(2,1)]⟩=true:=by kernel_rfl
theorem ti114:tiOK Tryz.prog 114 ⟨true,3,[(0,1),(1,1),(2,1)]⟩=true:=by kernel_rfl
theorem ti161:tiOK Tryz.prog 161 ⟨false,1,[]⟩=true:=by kernel_rfl
theorem z3:(Tryz.prog.info? 3).bind (·.zero)=some (.int .i64 0):=by kernel_rfl
theorem z4:(Tryz.prog.info? 4).bind (·.zero)=some (.bool false):=by kernel_rfl
theorem z25:(Tryz.prog.info? 25).bind (·.zero)=some (.agg #[.bool false,.string ⟨#[]⟩]):=by kernel_rfl
theorem z27:(Tryz.prog.info? 27).bind (·.zero)=some (.agg #[.bool false,.string ⟨#[]⟩,.bool false,.string ⟨#[]⟩]):=by kernel_rfl
theorem z30:(Tryz.prog.info? 30).bind (·.zero)=some (.agg #[.int .i64 0,.string ⟨#[]⟩,.bool false,.string ⟨#[]⟩,.bool false,.string ⟨#[]⟩,.slice none 0 0]):=by kernel_rfl
theorem z36:(Tryz.prog.info? 36).bind (·.zero)=some (.slice none 0 0):=by kernel_rfl
theorem z39:(Tryz.prog.info? 39).bind (·.zero)=some (.agg #[.int .i64 0,.slice none 0 0,.int .i64 0,.string ⟨#[]⟩,.bool false,.string ⟨#[]⟩,.bool false,.string ⟨#[]⟩,.slice none 0 0]):=by kernel_rfl
theorem z70:(Tryz.prog.info? 70).bind (·.zero)=some (.nilFunc):=by kernel_rfl
theorem z79:(Tryz.prog.info? 79).bind (·.zero)=some (.agg #[.string ⟨#[]⟩,.string ⟨#[]⟩,.string ⟨#[]⟩,.string ⟨#[]⟩]):=by kernel_rfl
theorem z92:(Tryz.prog.info? 92).bind (·.zero)=some (.agg #[.int .u8 0,.int .u8 0,.string ⟨#[]⟩]):=by kernel_rfl
theorem z94:(Tryz.prog.info? 94).bind (·.zero)=some (.agg #[.int .i64 0,.int .i64 0,.int .i64 0,.string ⟨#[]⟩]):=by kernel_rfl
theorem z110:(Tryz.prog.info? 110).bind (·.zero)=some (.agg #[.string ⟨#[]⟩,.int .i64 0,.int .i64 0]):=by kernel_rfl
theorem z114:(Tryz.prog.info? 114).bind (·.zero)=some (.agg #[.string ⟨#[]⟩,.int .i64 0,.int .i64 0]):=by kernel_rfl
theorem z127:(Tryz.prog.info? 127).bind (·.zero)=some (.agg #[.pointer none,.slice none 0 0]):=by kernel_rfl
theorem z201:(Tryz.prog.info? 201).bind (·.zero)=some (.agg #[.int .u8 0,.int .u8 0,.int .u8 0,.int .u8 0,.int .u8 0,.int .u8 0,.int .u8 0,.int .u8 0]):=by kernel_rfl
theorem z222:(Tryz.prog.info? 222).bind (·.zero)=some (.agg #[.bool false,.bool false,.bool false,.bool false,.bool false,.bool false,.bool false,.bool false,.bool false,.bool false,.bool false,.bool false,.bool false,.bool false,.bool false,.bool false,.bool false,.bool false,.bool false,.bool false,.bool false,.bool false,.bool false,.bool false,.bool false,.bool false,.bool false,.bool false,.bool false,.bool false,.bool false,.bool false,.bool false,.bool false,.bool false,.bool false,.bool false,.bool false,.bool false,.bool false,.bool false,.bool false,.bool false,.bool false,.bool false,.bool false,.bool false,.bool false,.bool false,.bool false,.bool false,.bool false,.bool false,.bool false,.bool false,.bool false,.bool false,.bool false,.bool false,.bool false,.bool false,.bool false,.bool false,.bool false,.bool false,.bool false,.bool false,.bool false,.bool false,.bool false,.bool false,.bool false,.bool false,.bool false,.bool false,.bool false,.bool false,.bool false,.bool false,.bool false,.bool false,.bool false,.bool false,.bool false,.bool false,.bool false,.bool false,.bool false,.bool false,.bool false,.bool false,.bool false,.bool false,.bool false,.bool false,.bool false,.bool false,.bool false,.bool false,.bool false,.bool false,.bool false,.bool false,.bool false,.bool false,.bool false,.bool false,.bool false,.bool false,.bool false,.bool false,.bool false,.bool false,.bool false,.bool false,.bool false,.bool false,.bool false,.bool false,.bool false,.bool false,.bool false,.bool false,.bool false,.bool false,.bool false,.bool false,.bool false,.bool false,.bool false,.bool false,.bool false,.bool false,.bool false,.bool false,.bool false,.bool false,.bool false,.bool false,.bool false,.bool false,.bool false,.bool false,.bool false,.bool false,.bool false,.bool false,.bool false,.bool false,.bool false,.bool false,.bool false,.bool false,.bool false,.bool false,.bool false,.bool false,.bool false,.bool false,.bool false,.bool false,.bool false,.bool false,.bool false,.bool false,.bool false,.bool false,.bool false,.bool false,.bool false,.bool false,.bool false,.bool false,.bool false,.bool false,.bool false,.bool false,.bool false,.bool false,.bool false,.bool false,.bool false,.bool false,.bool false,.bool false,.bool false,.bool false,.bool false,.bool false,.bool false,.bool false,.bool false,.bool false,.bool false,.bool false,.bool false,.bool false,.bool false,.bool false,.bool false,.bool false,.bool false,.bool false,.bool false,.bool false,.bool false,.bool false,.bool false,.bool false,.bool false,.bool false,.bool false,.bool false,.bool false,.bool false,.bool false,.bool false,.bool false,.bool false,.bool false,.bool false,.bool false,.bool false,.bool false,.bool false,.bool false,.bool false,.bool false,.bool false,.bool false,.bool false,.bool false,.bool false,.bool false,.bool false,.bool false,.bool false,.bool false,.bool false,.bool false,.bool false,.bool false,.bool false,.bool false,.bool false,.bool false,.bool false,.bool false,.bool false,.bool false,.bool false,.bool false,.bool false,.bool false,.bool false,.bool false]):=by kernel_rfl
theorem z229:(Tryz.prog.info? 229).bind (·.zero)=some (.agg #[.int .u8 0,.int .u8 0]):=by kernel_rfl
theorem bd25_0(w:World):(Instr.build 25 [].toArray).run Tryz.prog w= .ok (.agg #[.bool false,.string ⟨#[]⟩]) w:=by kernel_rfl
theorem bd25_2{a0:Bool}{b0:ByteArray}(w:World):(Instr.build 25 [(0,.bool a0),(1,.string b0)].toArray).run Tryz.prog w= .ok (.agg #[.bool a0,.string b0]) w:=by kernel_rfl
theorem bd27_0(w:World):(Instr.build 27 [].toArray).run Tryz.prog w= .ok (.agg #[.bool false,.string ⟨#[]⟩,.bool false,.string ⟨#[]⟩]) w:=by kernel_rfl
theorem bd27_1{a0:Bool}{a1:ByteArray}(w:World):(Instr.build 27 [(0,.agg #[.bool a0,.string a1])].toArray).run Tryz.prog w= .ok (.agg #[.bool a0,.string a1,.bool false,.string ⟨#[]⟩]) w:=by kernel_rfl
theorem bd27_2{a0:Bool}{a1:ByteArray}{b0:Bool}{b1:ByteArray}(w:World):(Instr.build 27 [(0,.agg #[.bool a0,.string a1]),(1,.agg #[.bool b0,.string b1])].toArray).run Tryz.prog w= .ok (.agg #[.bool a0,.string a1,.bool b0,.string b1]) w:=by kernel_rfl
theorem bd30_0(w:World):(Instr.build 30 [].toArray).run Tryz.prog w= .ok (.agg #[.int .i64 0,.string ⟨#[]⟩,.bool false,.string ⟨#[]⟩,.bool false,.string ⟨#[]⟩,.slice none 0 0]) w:=by kernel_rfl
theorem bd30_1{a0:Int}(w:World):(Instr.build 30 [(0,.int .i64 a0)].toArray).run Tryz.prog w= .ok (.agg #[.int .i64 a0,.string ⟨#[]⟩,.bool false,.string ⟨#[]⟩,.bool false,.string ⟨#[]⟩,.slice none 0 0]) w:=by kernel_rfl
theorem bd30_2{a0:Int}{b0:ByteArray}(w:World):(Instr.build 30 [(0,.int .i64 a0),(1,.string b0)].toArray).run Tryz.prog w= .ok (.agg #[.int .i64 a0,.string b0,.bool false,.string ⟨#[]⟩,.bool false,.string ⟨#[]⟩,.slice none 0 0]) w:=by kernel_rfl
theorem bd30_0_2x{a0:Int}{b0:Bool}{b1:ByteArray}{b2:Bool}{b3:ByteArray}(w:World):(Instr.build 30 [(0,.int .i64 a0),(2,.agg #[.bool b0,.string b1,.bool b2,.string b3])].toArray).run Tryz.prog w= .ok (.agg #[.int .i64 a0,.string ⟨#[]⟩,.bool b0,.string b1,.bool b2,.string b3,.slice none 0 0]) w:=by kernel_rfl
theorem bd30_0_3x{a0:Int}{b0:Option Addr}{b0n b0c:Nat}(w:World):(Instr.build 30 [(0,.int .i64 a0),(3,.slice b0 b0n b0c)].toArray).run Tryz.prog w= .ok (.agg #[.int .i64 a0,.string ⟨#[]⟩,.bool false,.string ⟨#[]⟩,.bool false,.string ⟨#[]⟩,.slice b0 b0n b0c]) w:=by kernel_rfl
theorem bd39_0(w:World):(Instr.build 39 [].toArray).run Tryz.prog w= .ok (.agg #[.int .i64 0,.slice none 0 0,.int .i64 0,.string ⟨#[]⟩,.bool false,.string ⟨#[]⟩,.bool false,.string ⟨#[]⟩,.slice none 0 0]) w:=by kernel_rfl
theorem bd73_0(w:World):(Instr.build 73 [].toArray).run Tryz.prog w= .ok (.agg #[.int .i64 0]) w:=by kernel_rfl
theorem bd79_1_2_3x{a0:ByteArray}{b0:ByteArray}{c0:ByteArray}(w:World):(Instr.build 79 [(1,.string a0),(2,.string b0),(3,.string c0)].toArray).run Tryz.prog w= .ok (.agg #[.string ⟨#[]⟩,.string a0,.string b0,.string c0]) w:=by kernel_rfl
theorem bd94_0(w:World):(Instr.build 94 [].toArray).run Tryz.prog w= .ok (.agg #[.int .i64 0,.int .i64 0,.int .i64 0,.string ⟨#[]⟩]) w:=by kernel_rfl
theorem bd94_4{a0:Int}{b0:Int}{c0:Int}{d0:ByteArray}(w:World):(Instr.build 94 [(0,.int .i64 a0),(1,.int .i64 b0),(2,.int .i64 c0),(3,.string d0)].toArray).run Tryz.prog w= .ok (.agg #[.int .i64 a0,.int .i64 b0,.int .i64 c0,.string d0]) w:=by kernel_rfl
theorem bd110_3{a0:ByteArray}{b0:Int}{c0:Int}(w:World):(Instr.build 110 [(0,.string a0),(1,.int .i64 b0),(2,.int .i64 c0)].toArray).run Tryz.prog w= .ok (.agg #[.string a0,.int .i64 b0,.int .i64 c0]) w:=by kernel_rfl
theorem bd114_3{a0:ByteArray}{b0:Int}{c0:Int}(w:World):(Instr.build 114 [(0,.string a0),(1,.int .i64 b0),(2,.int .i64 c0)].toArray).run Tryz.prog w= .ok (.agg #[.string a0,.int .i64 b0,.int .i64 c0]) w:=by kernel_rfl
theorem bd137_3{a0:Int}{b0:Int}{c0:ByteArray}(w:World):(Instr.build 137 [(0,.int .i64 a0),(1,.int .i64 b0),(2,.string c0)].toArray).run Tryz.prog w= .ok (.agg #[.int .i64 a0,.int .i64 b0,.string c0]) w:=by kernel_rfl
theorem bd139_2{a0:Int}{b0:Int}(w:World):(Instr.build 139 [(0,.int .i64 a0),(1,.int .i64 b0)].toArray).run Tryz.prog w= .ok (.agg #[.int .i64 a0,.int .i64 b0]) w:=by kernel_rfl
theorem bd141_1{a0:ByteArray}(w:World):(Instr.build 141 [(0,.string a0)].toArray).run Tryz.prog w= .ok (.agg #[.string a0,.int .i64 0,.int .i64 0,.int .i64 0,.string ⟨#[]⟩,.int .i64 0,.int .i64 0,.bool false]) w:=by kernel_rfl
theorem bs28_1{a0:Int}{a1:ByteArray}{a2:Bool}{a3:ByteArray}{a4:Bool}{a5:ByteArray}{a6:Option Addr}{a6n a6c:Nat}(w:World):(Instr.buildSlice 28 1 [(0,.agg #[.int .i64 a0,.string a1,.bool a2,.string a3,.bool a4,.string a5,.slice a6 a6n a6c])].toArray).run Tryz.prog w= .ok (.slice (some ⟨w.heap.size,0,none⟩) 1 1) (w.alloc (.cells [.int .i64 a0,.string a1,.bool a2,.string a3,.bool a4,.string a5,.slice a6 a6n a6c].toArray 30)):=by kernel_rfl
theorem bs28_2{a0:Int}{a1:ByteArray}{a2:Bool}{a3:ByteArray}{a4:Bool}{a5:ByteArray}{a6:Option Addr}{a6n a6c:Nat}{b0:Int}{b1:ByteArray}{b2:Bool}{b3:ByteArray}{b4:Bool}{b5:ByteArray}{b6:Option Addr}{b6n b6c:Nat}(w:World):(Instr.buildSlice 28 2 [(0,.agg #[.int .i64 a0,.string a1,.bool a2,.string a3,.bool a4,.string a5,.slice a6 a6n a6c]),(1,.agg #[.int .i64 b0,.string b1,.bool b2,.string b3,.bool b4,.string b5,.slice b6 b6n b6c])].toArray).run Tryz.prog w= .ok (.slice (some ⟨w.heap.size,0,none⟩) 2 2) (w.alloc (.cells [.int .i64 a0,.string a1,.bool a2,.string a3,.bool a4,.string a5,.slice a6 a6n a6c,.int .i64 b0,.string b1,.bool b2,.string b3,.bool b4,.string b5,.slice b6 b6n b6c].toArray 30)):=by kernel_rfl
theorem bs36_1{a0:ByteArray}(w:World):(Instr.buildSlice 36 1 [(0,.string a0)].toArray).run Tryz.prog w= .ok (.slice (some ⟨w.heap.size,0,none⟩) 1 1) (w.alloc (.cells [.string a0].toArray 9)):=by kernel_rfl
theorem bs36_2{a0:ByteArray}{b0:ByteArray}(w:World):(Instr.buildSlice 36 2 [(0,.string a0),(1,.string b0)].toArray).run Tryz.prog w= .ok (.slice (some ⟨w.heap.size,0,none⟩) 2 2) (w.alloc (.cells [.string a0,.string b0].toArray 9)):=by kernel_rfl
theorem bs36_3{a0:ByteArray}{b0:ByteArray}{c0:ByteArray}(w:World):(Instr.buildSlice 36 3 [(0,.string a0),(1,.string b0),(2,.string c0)].toArray).run Tryz.prog w= .ok (.slice (some ⟨w.heap.size,0,none⟩) 3 3) (w.alloc (.cells [.string a0,.string b0,.string c0].toArray 9)):=by kernel_rfl
theorem bs36_4{a0:ByteArray}{b0:ByteArray}{c0:ByteArray}{d0:ByteArray}(w:World):(Instr.buildSlice 36 4 [(0,.string a0),(1,.string b0),(2,.string c0),(3,.string d0)].toArray).run Tryz.prog w= .ok (.slice (some ⟨w.heap.size,0,none⟩) 4 4) (w.alloc (.cells [.string a0,.string b0,.string c0,.string d0].toArray 9)):=by kernel_rfl
theorem bs50_1{a0:Int}{a1:Int}{a2:ByteArray}(w:World):(Instr.buildSlice 50 1 [(0,.agg #[.int .u8 a0,.int .u8 a1,.string a2])].toArray).run Tryz.prog w= .ok (.slice (some ⟨w.heap.size,0,none⟩) 1 1) (w.alloc (.cells [.int .u8 a0,.int .u8 a1,.string a2].toArray 92)):=by kernel_rfl
theorem bs57_1{a0:Int}(w:World):(Instr.buildSlice 57 1 [(0,.int .i64 a0)].toArray).run Tryz.prog w= .ok (.slice (some ⟨w.heap.size,0,none⟩) 1 1) (w.alloc (.cells [.int .i64 a0].toArray 3)):=by kernel_rfl
theorem bs57_2{a0:Int}{b0:Int}(w:World):(Instr.buildSlice 57 2 [(0,.int .i64 a0),(1,.int .i64 b0)].toArray).run Tryz.prog w= .ok (.slice (some ⟨w.heap.size,0,none⟩) 2 2) (w.alloc (.cells [.int .i64 a0,.int .i64 b0].toArray 3)):=by kernel_rfl
theorem bs107_12{a0:ByteArray}{a1:Int}{a2:Int}{b0:ByteArray}{b1:Int}{b2:Int}{c0:ByteArray}{c1:Int}{c2:Int}{d0:ByteArray}{d1:Int}{d2:Int}{e0:ByteArray}{e1:Int}{e2:Int}{f0:ByteArray}{f1:Int}{f2:Int}{g0:ByteArray}{g1:Int}{g2:Int}{h0:ByteArray}{h1:Int}{h2:Int}{i0:ByteArray}{i1:Int}{i2:Int}{j0:ByteArray}{j1:Int}{j2:Int}{k0:ByteArray}{k1:Int}{k2:Int}{l0:ByteArray}{l1:Int}{l2:Int}(w:World):(Instr.buildSlice 107 12 [(0,.agg #[.string a0,.int .i64 a1,.int .i64 a2]),(1,.agg #[.string b0,.int .i64 b1,.int .i64 b2]),(2,.agg #[.string c0,.int .i64 c1,.int .i64 c2]),(3,.agg #[.string d0,.int .i64 d1,.int .i64 d2]),(4,.agg #[.string e0,.int .i64 e1,.int .i64 e2]),(5,.agg #[.string f0,.int .i64 f1,.int .i64 f2]),(6,.agg #[.string g0,.int .i64 g1,.int .i64 g2]),(7,.agg #[.string h0,.int .i64 h1,.int .i64 h2]),(8,.agg #[.string i0,.int .i64 i1,.int .i64 i2]),(9,.agg #[.string j0,.int .i64 j1,.int .i64 j2]),(10,.agg #[.string k0,.int .i64 k1,.int .i64 k2]),(11,.agg #[.string l0,.int .i64 l1,.int .i64 l2])].toArray).run Tryz.prog w= .ok (.slice (some ⟨w.heap.size,0,none⟩) 12 12) (w.alloc (.cells [.string a0,.int .i64 a1,.int .i64 a2,.string b0,.int .i64 b1,.int .i64 b2,.string c0,.int .i64 c1,.int .i64 c2,.string d0,.int .i64 d1,.int .i64 d2,.string e0,.int .i64 e1,.int .i64 e2,.string f0,.int .i64 f1,.int .i64 f2,.string g0,.int .i64 g1,.int .i64 g2,.string h0,.int .i64 h1,.int .i64 h2,.string i0,.int .i64 i1,.int .i64 i2,.string j0,.int .i64 j1,.int .i64 j2,.string k0,.int .i64 k1,.int .i64 k2,.string l0,.int .i64 l1,.int .i64 l2].toArray 110)):=by kernel_rfl
theorem bs111_12{a0:ByteArray}{a1:Int}{a2:Int}{b0:ByteArray}{b1:Int}{b2:Int}{c0:ByteArray}{c1:Int}{c2:Int}{d0:ByteArray}{d1:Int}{d2:Int}{e0:ByteArray}{e1:Int}{e2:Int}{f0:ByteArray}{f1:Int}{f2:Int}{g0:ByteArray}{g1:Int}{g2:Int}{h0:ByteArray}{h1:Int}{h2:Int}{i0:ByteArray}{i1:Int}{i2:Int}{j0:ByteArray}{j1:Int}{j2:Int}{k0:ByteArray}{k1:Int}{k2:Int}{l0:ByteArray}{l1:Int}{l2:Int}(w:World):(Instr.buildSlice 111 12 [(0,.agg #[.string a0,.int .i64 a1,.int .i64 a2]),(1,.agg #[.string b0,.int .i64 b1,.int .i64 b2]),(2,.agg #[.string c0,.int .i64 c1,.int .i64 c2]),(3,.agg #[.string d0,.int .i64 d1,.int .i64 d2]),(4,.agg #[.string e0,.int .i64 e1,.int .i64 e2]),(5,.agg #[.string f0,.int .i64 f1,.int .i64 f2]),(6,.agg #[.string g0,.int .i64 g1,.int .i64 g2]),(7,.agg #[.string h0,.int .i64 h1,.int .i64 h2]),(8,.agg #[.string i0,.int .i64 i1,.int .i64 i2]),(9,.agg #[.string j0,.int .i64 j1,.int .i64 j2]),(10,.agg #[.string k0,.int .i64 k1,.int .i64 k2]),(11,.agg #[.string l0,.int .i64 l1,.int .i64 l2])].toArray).run Tryz.prog w= .ok (.slice (some ⟨w.heap.size,0,none⟩) 12 12) (w.alloc (.cells [.string a0,.int .i64 a1,.int .i64 a2,.string b0,.int .i64 b1,.int .i64 b2,.string c0,.int .i64 c1,.int .i64 c2,.string d0,.int .i64 d1,.int .i64 d2,.string e0,.int .i64 e1,.int .i64 e2,.string f0,.int .i64 f1,.int .i64 f2,.string g0,.int .i64 g1,.int .i64 g2,.string h0,.int .i64 h1,.int .i64 h2,.string i0,.int .i64 i1,.int .i64 i2,.string j0,.int .i64 j1,.int .i64 j2,.string k0,.int .i64 k1,.int .i64 k2,.string l0,.int .i64 l1,.int .i64 l2].toArray 114)):=by kernel_rfl
theorem bs115_4{a0:Int}{a1:Int}{a2:Int}{a3:ByteArray}{b0:Int}{b1:Int}{b2:Int}{b3:ByteArray}{c0:Int}{c1:Int}{c2:Int}{c3:ByteArray}{d0:Int}{d1:Int}{d2:Int}{d3:ByteArray}(w:World):(Instr.buildSlice 115 4 [(0,.agg #[.int .i64 a0,.int .i64 a1,.int .i64 a2,.string a3]),(1,.agg #[.int .i64 b0,.int .i64 b1,.int .i64 b2,.string b3]),(2,.agg #[.int .i64 c0,.int .i64 c1,.int .i64 c2,.string c3]),(3,.agg #[.int .i64 d0,.int .i64 d1,.int .i64 d2,.string d3])].toArray).run Tryz.prog w= .ok (.slice (some ⟨w.heap.size,0,none⟩) 4 4) (w.alloc (.cells [.int .i64 a0,.int .i64 a1,.int .i64 a2,.string a3,.int .i64 b0,.int .i64 b1,.int .i64 b2,.string b3,.int .i64 c0,.int .i64 c1,.int .i64 c2,.string c3,.int .i64 d0,.int .i64 d1,.int .i64 d2,.string d3].toArray 94)):=by kernel_rfl
theorem bs115_30{a0:Int}{a1:Int}{a2:Int}{a3:ByteArray}{b0:Int}{b1:Int}{b2:Int}{b3:ByteArray}{c0:Int}{c1:Int}{c2:Int}{c3:ByteArray}{d0:Int}{d1:Int}{d2:Int}{d3:ByteArray}{e0:Int}{e1:Int}{e2:Int}{e3:ByteArray}{f0:Int}{f1:Int}{f2:Int}{f3:ByteArray}{g0:Int}{g1:Int}{g2:Int}{g3:ByteArray}{h0:Int}{h1:Int}{h2:Int}{h3:ByteArray}{i0:Int}{i1:Int}{i2:Int}{i3:ByteArray}{j0:Int}{j1:Int}{j2:Int}{j3:ByteArray}{k0:Int}{k1:Int}{k2:Int}{k3:ByteArray}{l0:Int}{l1:Int}{l2:Int}{l3:ByteArray}{m0:Int}{m1:Int}{m2:Int}{m3:ByteArray}{v13_0:Int}{v13_1:Int}{v13_2:Int}{v13_3:ByteArray}{v14_0:Int}{v14_1:Int}{v14_2:Int}{v14_3:ByteArray}{v15_0:Int}{v15_1:Int}{v15_2:Int}{v15_3:ByteArray}{v16_0:Int}{v16_1:Int}{v16_2:Int}{v16_3:ByteArray}{v17_0:Int}{v17_1:Int}{v17_2:Int}{v17_3:ByteArray}{v18_0:Int}{v18_1:Int}{v18_2:Int}{v18_3:ByteArray}{v19_0:Int}{v19_1:Int}{v19_2:Int}{v19_3:ByteArray}{v20_0:Int}{v20_1:Int}{v20_2:Int}{v20_3:ByteArray}{v21_0:Int}{v21_1:Int}{v21_2:Int}{v21_3:ByteArray}{v22_0:Int}{v22_1:Int}{v22_2:Int}{v22_3:ByteArray}{v23_0:Int}{v23_1:Int}{v23_2:Int}{v23_3:ByteArray}{v24_0:Int}{v24_1:Int}{v24_2:Int}{v24_3:ByteArray}{v25_0:Int}{v25_1:Int}{v25_2:Int}{v25_3:ByteArray}{v26_0:Int}{v26_1:Int}{v26_2:Int}{v26_3:ByteArray}{v27_0:Int}{v27_1:Int}{v27_2:Int}{v27_3:ByteArray}{v28_0:Int}{v28_1:Int}{v28_2:Int}{v28_3:ByteArray}{v29_0:Int}{v29_1:Int}{v29_2:Int}{v29_3:ByteArray}(w:World):(Instr.buildSlice 115 30 [(0,.agg #[.int .i64 a0,.int .i64 a1,.int .i64 a2,.string a3]),(1,.agg #[.int .i64 b0,.int .i64 b1,.int .i64 b2,.string b3]),(2,.agg #[.int .i64 c0,.int .i64 c1,.int .i64 c2,.string c3]),(3,.agg #[.int .i64 d0,.int .i64 d1,.int .i64 d2,.string d3]),(4,.agg #[.int .i64 e0,.int .i64 e1,.int .i64 e2,.string e3]),(5,.agg #[.int .i64 f0,.int .i64 f1,.int .i64 f2,.string f3]),(6,.agg #[.int .i64 g0,.int .i64 g1,.int .i64 g2,.string g3]),(7,.agg #[.int .i64 h0,.int .i64 h1,.int .i64 h2,.string h3]),(8,.agg #[.int .i64 i0,.int .i64 i1,.int .i64 i2,.string i3]),(9,.agg #[.int .i64 j0,.int .i64 j1,.int .i64 j2,.string j3]),(10,.agg #[.int .i64 k0,.int .i64 k1,.int .i64 k2,.string k3]),(11,.agg #[.int .i64 l0,.int .i64 l1,.int .i64 l2,.string l3]),(12,.agg #[.int .i64 m0,.int .i64 m1,.int .i64 m2,.string m3]),(13,.agg #[.int .i64 v13_0,.int .i64 v13_1,.int .i64 v13_2,.string v13_3]),(14,.agg #[.int .i64 v14_0,.int .i64 v14_1,.int .i64 v14_2,.string v14_3]),(15,.agg #[.int .i64 v15_0,.int .i64 v15_1,.int .i64 v15_2,.string v15_3]),(16,.agg #[.int .i64 v16_0,.int .i64 v16_1,.int .i64 v16_2,.string v16_3]),(17,.agg #[.int .i64 v17_0,.int .i64 v17_1,.int .i64 v17_2,.string v17_3]),(18,.agg #[.int .i64 v18_0,.int .i64 v18_1,.int .i64 v18_2,.string v18_3]),(19,.agg #[.int .i64 v19_0,.int .i64 v19_1,.int .i64 v19_2,.string v19_3]),(20,.agg #[.int .i64 v20_0,.int .i64 v20_1,.int .i64 v20_2,.string v20_3]),(21,.agg #[.int .i64 v21_0,.int .i64 v21_1,.int .i64 v21_2,.string v21_3]),(22,.agg #[.int .i64 v22_0,.int .i64 v22_1,.int .i64 v22_2,.string v22_3]),(23,.agg #[.int .i64 v23_0,.int .i64 v23_1,.int .i64 v23_2,.string v23_3]),(24,.agg #[.int .i64 v24_0,.int .i64 v24_1,.int .i64 v24_2,.string v24_3]),(25,.agg #[.int .i64 v25_0,.int .i64 v25_1,.int .i64 v25_2,.string v25_3]),(26,.agg #[.int .i64 v26_0,.int .i64 v26_1,.int .i64 v26_2,.string v26_3]),(27,.agg #[.int .i64 v27_0,.int .i64 v27_1,.int .i64 v27_2,.string v27_3]),(28,.agg #[.int .i64 v28_0,.int .i64 v28_1,.int .i64 v28_2,.string v28_3]),(29,.agg #[.int .i64 v29_0,.int .i64 v29_1,.int .i64 v29_2,.string v29_3])].toArray).run Tryz.prog w= .ok (.slice (some ⟨w.heap.size,0,none⟩) 30 30) (w.alloc (.cells [.int .i64 a0,.int .i64 a1,.int .i64 a2,.string a3,.int .i64 b0,.int .i64 b1,.int .i64 b2,.string b3,.int .i64 c0,.int .i64 c1,.int .i64 c2,.string c3,.int .i64 d0,.int .i64 d1,.int .i64 d2,.string d3,.int .i64 e0,.int .i64 e1,.int .i64 e2,.string e3,.int .i64 f0,.int .i64 f1,.int .i64 f2,.string f3,.int .i64 g0,.int .i64 g1,.int .i64 g2,.string g3,.int .i64 h0,.int .i64 h1,.int .i64 h2,.string h3,.int .i64 i0,.int .i64 i1,.int .i64 i2,.string i3,.int .i64 j0,.int .i64 j1,.int .i64 j2,.string j3,.int .i64 k0,.int .i64 k1,.int .i64 k2,.string k3,.int .i64 l0,.int .i64 l1,.int .i64 l2,.string l3,.int .i64 m0,.int .i64 m1,.int .i64 m2,.string m3,.int .i64 v13_0,.int .i64 v13_1,.int .i64 v13_2,.string v13_3,.int .i64 v14_0,.int .i64 v14_1,.int .i64 v14_2,.string v14_3,.int .i64 v15_0,.int .i64 v15_1,.int .i64 v15_2,.string v15_3,.int .i64 v16_0,.int .i64 v16_1,.int .i64 v16_2,.string v16_3,.int .i64 v17_0,.int .i64 v17_1,.int .i64 v17_2,.string v17_3,.int .i64 v18_0,.int .i64 v18_1,.int .i64 v18_2,.string v18_3,.int .i64 v19_0,.int .i64 v19_1,.int .i64 v19_2,.string v19_3,.int .i64 v20_0,.int .i64 v20_1,.int .i64 v20_2,.string v20_3,.int .i64 v21_0,.int .i64 v21_1,.int .i64 v21_2,.string v21_3,.int .i64 v22_0,.int .i64 v22_1,.int .i64 v22_2,.string v22_3,.int .i64 v23_0,.int .i64 v23_1,.int .i64 v23_2,.string v23_3,.int .i64 v24_0,.int .i64 v24_1,.int .i64 v24_2,.string v24_3,.int .i64 v25_0,.int .i64 v25_1,.int .i64 v25_2,.string v25_3,.int .i64 v26_0,.int .i64 v26_1,.int .i64 v26_2,.string v26_3,.int .i64 v27_0,.int .i64 v27_1,.int .i64 v27_2,.string v27_3,.int .i64 v28_0,.int .i64 v28_1,.int .i64 v28_2,.string v28_3,.int .i64 v29_0,.int .i64 v29_1,.int .i64 v29_2,.string v29_3].toArray 94)):=by kernel_rfl
theorem bs125_1{a0:Int}(w:World):(Instr.buildSlice 125 1 [(0,.int .u8 a0)].toArray).run Tryz.prog w= .ok (.slice (some ⟨w.heap.size,0,none⟩) 1 1) (w.alloc (.cells [.int .u8 a0].toArray 5)):=by kernel_rfl
theorem el30:elB Tryz.prog 30 7 (.agg #[.int .i64 0,.string ⟨#[]⟩,.bool false,.string ⟨#[]⟩,.bool false,.string ⟨#[]⟩,.slice none 0 0]):=by exact⟨by kernel_rfl,by decide⟩
theorem el9:elB Tryz.prog 9 1 (.string ⟨#[]⟩):=by exact⟨by kernel_rfl,by decide⟩
theorem el92:elB Tryz.prog 92 3 (.agg #[.int .u8 0,.int .u8 0,.string ⟨#[]⟩]):=by exact⟨by kernel_rfl,by decide⟩
theorem el3:elB Tryz.prog 3 1 (.int .i64 0):=by exact⟨by kernel_rfl,by decide⟩
theorem el5:elB Tryz.prog 5 1 (.int .u8 0):=by exact⟨by kernel_rfl,by decide⟩
theorem el161:elB Tryz.prog 161 1 (.int .u32 0):=by exact⟨by kernel_rfl,by decide⟩
theorem gd25:Tryz.prog.eqGuardType Tryz.prog.depth 25=false:=by kernel_rfl
theorem gd27:Tryz.prog.eqGuardType Tryz.prog.depth 27=false:=by kernel_rfl
theorem u2:Tryz.prog.underlying 2=some (.int .i64):=by kernel_rfl
theorem u3:Tryz.prog.underlying 3=some (.int .i64):=by kernel_rfl
theorem u4:Tryz.prog.underlying 4=some .bool:=by kernel_rfl
theorem u5:Tryz.prog.underlying 5=some (.int .u8):=by kernel_rfl
theorem u9:Tryz.prog.underlying 9=some .string:=by kernel_rfl
theorem u21:Tryz.prog.underlying 21=some (.int .i32):=by kernel_rfl
theorem u28:Tryz.prog.underlying 28=some (.slice 30):=by kernel_rfl
theorem u32:Tryz.prog.underlying 32=some (.int .i64):=by kernel_rfl
theorem u36:Tryz.prog.underlying 36=some (.slice 9):=by kernel_rfl
theorem u50:Tryz.prog.underlying 50=some (.slice 92):=by kernel_rfl
theorem u57:Tryz.prog.underlying 57=some (.slice 3):=by kernel_rfl
theorem u66:Tryz.prog.underlying 66=some (.map 9 4):=by kernel_rfl
theorem u79:Tryz.prog.underlying 79=some (.array 4 9):=by kernel_rfl
theorem u125:Tryz.prog.underlying 125=some (.slice 5):=by kernel_rfl
theorem u161:Tryz.prog.underlying 161=some (.int .u32):=by kernel_rfl
theorem u163:Tryz.prog.underlying 163=some (.int .u64):=by kernel_rfl
theorem u174:Tryz.prog.underlying 174=some (.slice 161):=by kernel_rfl
theorem u201:Tryz.prog.underlying 201=some (.array 8 5):=by kernel_rfl
theorem eq25r(a a':Bool)(b b':ByteArray)(w:World):(Op.equalIn 10000 25 (.agg #[.bool a,.string b]) (.agg #[.bool a',.string b'])).run Tryz.prog w= .ok ((a==a')&&(b==b')) w:=by
 simp only[beq_toListBytes]
 simp[go_sem]
 (repeat' split)<;>simp_all
theorem eq27r(a a' c c':Bool)(b b' d d':ByteArray)(w:World):(Op.equalIn 10000 27 (.agg #[.bool a,.string b,.bool c,.string d]) (.agg #[.bool a',.string b',.bool c',.string d'])).run Tryz.prog w=
 .ok ((a==a')&&((b==b')&&((c==c')&&(d==d')))) w:=by
 simp only[beq_toListBytes]
 simp[go_sem]
 (repeat' split)<;>simp_all
theorem eq25(x y:Int)(w:World):(Op.equalIn 10000 25 (I x) (I y)).run Tryz.prog w= .ok (decide (x=y)) w:=by
 rw[←I_eq];exact eq25r _ _ _ _ w
end Go.Proofs.YtfijbadahkmhbaaGreatDoor
namespace Go.Via
open Go Go.RowKit
def TreeT(P:Program)(bl:List Nat)(ops:Array Oper)(K:St→Prop):Nat→List Nat→St→Prop
 |0,Ts,s=>Ts=[]∧K s
 |n+1,Ts,s=>ForR (fun i=>∃o,ops[i]? =some o∧Run P bl ops [o] s (fun s'=>TreeT P bl ops K n (Ts.filter (· !=i)) s')) (Ts.filter fun i=> !Ts.any fun j=>waitsF ops ops.size i j)
theorem ForR.mono{Q Q':Nat→Prop}(h:∀i,Q i→Q' i):∀{l:List Nat},ForR Q l→ForR Q' l
 |[],_=>trivial
 |_::_,hh=>⟨h _ hh.1,ForR.mono h hh.2⟩
theorem TreeT.kc{P:Program}{bl:List Nat}{ops:Array Oper}{K:St→Prop}(hK:KC K):∀(n:Nat) (Ts:List Nat),KC (TreeT P bl ops K n Ts)
 |0,Ts=>fun s1 s2 he h=>⟨h.1,hK s1 s2 he h.2⟩
 |n+1,Ts=>fun s1 s2 he h=>ForR.mono (fun i ⟨o,h1,h2⟩=>⟨o,h1,Run.kc (TreeT.kc hK n _) [o] s1 s2 he h2⟩) h
theorem TreeT.mono{P:Program}{bl:List Nat}{ops:Array Oper}{K K':St→Prop}(hK:∀s,K s→K' s):∀(n:Nat) (Ts:List Nat) (s:St),TreeT P bl ops K n Ts s→TreeT P bl ops K' n Ts s
 |0,Ts,s,h=>⟨h.1,hK s h.2⟩
 |n+1,Ts,s,h=>ForR.mono (fun i ⟨o,h1,h2⟩=>⟨o,h1,h2.mono (fun s'=>TreeT.mono hK n _ s')⟩) h
theorem Run.append{P:Program}{bl:List Nat}{ops:Array Oper}{K:St→Prop}:∀{l l2:List Oper} {s:St},Run P bl ops l s (fun s'=>Run P bl ops l2 s' K)→Run P bl ops (l++l2) s K
 |[],_,_,h=>h
 |_::l,l2,_,h=>Step.mono (fun _ h1=>Run.append (l:=l) h1) h
structure Ord1(ops:Array Oper)(l:List Nat):Prop where
 lt:∀i∈l,i<ops.size
 nw:l.Pairwise (fun p i=>noWait ops p i=true)
 self:∀i∈l,noWait ops i i=true
 ed:∀i∈l,edgesIn ops i=true
 nodup:l.Nodup
theorem Ord1.sub{ops:Array Oper}{l l':List Nat}(h:Ord1 ops l)(hs:l'.Sublist l):Ord1 ops l':=
 ⟨fun i hi=>h.lt i (hs.subset hi),h.nw.sublist hs,fun i hi=>h.self i (hs.subset hi),fun i hi=>h.ed i (hs.subset hi),h.nodup.sublist hs⟩
end Go.Via
namespace Go.Via
end Go.Via
namespace Go.Via
open Go Go.RowKit
def SCallA(P:Program)(f:Nat)(L:List Blk)(args:List Value)(X:Type)(res:X→Value)(new:X→List Blk):Prop:=
 plainF P f=true∧∀w:World,LRel w L w→Calls P f args.toArray w fun e w'=>∃x,e= .returned (res x)∧LRel w (new x) w'∧∀b∈new x,∀g,b.base=some g→w.heap.size≤g∨∃b0∈L,b0.base=some g
theorem SCallA.mono{P:Program}{f:Nat}{L:List Blk}{args:List Value}{X Y:Type}{res:X→Value}{new:X→List Blk}{res':Y→Value}{new':Y→List Blk}(h:SCallA P f L args X res new)(m:∀x,∃y,res x=res' y∧new x=new' y):
 SCallA P f L args Y res' new':=by
 refine⟨h.1,fun w hL=>(h.2 w hL).mono ?_⟩
 rintro e w' ⟨x,rfl,hx,hf⟩
 obtain⟨y,h1,h2⟩:=m x
 exact⟨y,by rw[h1],by rw[←h2];exact hx,by rw[←h2];exact hf⟩
section
variable{P:Program}{bl:List Nat}{ops:Array Oper}{K:St→Prop}{rest:List Oper}{nt:Nat}{t:List (Nat×Value)}{L:List Blk}{d:Nat}{ty:TypeId}{pos:String}{af:Array Edge}{g:Option (Nat×Bool)}{x y:Operand}
end
theorem LRel.perm{B:Bs}{w:World}{L L':List Blk}(hp:List.Perm L L')(h:LRel B L w):LRel B L' w:=by
 have key:L.Pairwise (fun bi bj=>(bi.own=true∨bj.own=true)→∀g,bi.base=some g→bj.base≠some g):=by
  rw[List.pairwise_iff_getElem]
  intro i j hi hj hij ho g hg hgj
  rcases ho with ho|ho
  ·exact h.apart i j g _ _ (by omega) (List.getElem?_eq_getElem hi) (List.getElem?_eq_getElem hj) ho hg hgj
  ·exact h.apart j i g _ _ (by omega) (List.getElem?_eq_getElem hj) (List.getElem?_eq_getElem hi) ho hgj hg
 have key':=(hp.pairwise_iff (fun {x y} hxy ho g hy hx=>hxy ho.symm g hx hy)).1 key
 rw[List.pairwise_iff_getElem] at key'
 refine⟨h.bel,fun k b hk=>?_,fun i j g bi bj hij hi hj ho hg hgj=>?_,h.grp.mem fun b hb=>hp.symm.subset hb⟩
 ·have hm:=hp.symm.subset (List.mem_of_getElem? hk)
  obtain⟨m,hm⟩:=List.mem_iff_getElem?.1 hm
  exact h.blk m b hm
 ·obtain⟨hi1,rfl⟩:=List.getElem?_eq_some_iff.1 hi
  obtain⟨hj1,rfl⟩:=List.getElem?_eq_some_iff.1 hj
  rcases Nat.lt_or_gt_of_ne hij with c|c
  ·exact key' i j hi1 hj1 c (.inl ho) g hg hgj
  ·exact key' j i hj1 hi1 c (.inr ho) g hgj hg
structure EqvP(s s':St):Prop where
 nt:s.nt=s'.nt
 L:List.Perm s.L s'.L
 look:∀d,look s.t d=look s'.t d
theorem EqvP.rel{s s':St}(h:EqvP s s'){B:Bs}{w:World}{a:Act}(r:Rel B s' a w):Rel B s a w:=
 ⟨r.df,r.size.trans h.nt.symm,fun d v hd=>r.tmp d v (by rw[←h.look d];exact hd),r.mem.perm h.L.symm⟩
theorem EqvP.refl(s:St):EqvP s s:=⟨rfl,List.Perm.refl _,fun _=>rfl⟩
theorem EqvP.symm{s s':St}(h:EqvP s s'):EqvP s' s:=⟨h.nt.symm,h.L.symm,fun d=>(h.look d).symm⟩
theorem EqvP.trans{s s' s'':St}(h:EqvP s s')(k:EqvP s' s''):EqvP s s'':=⟨h.nt.trans k.nt,h.L.trans k.L,fun d=>(h.look d).trans (k.look d)⟩
theorem EqvP.put{s s':St}(h:EqvP s s')(dst:Option Nat)(sv:Value)(new:List Blk):EqvP (({s with L:=s.L++new}:St).put dst sv) (({s' with L:=s'.L++new}:St).put dst sv):=by
 cases dst with
 |none=>exact⟨h.nt,h.L.append_right _,h.look⟩
 |some d=>
  refine⟨h.nt,h.L.append_right _,fun k=>?_⟩
  by_cases e:d=k
  ·subst e;simp[St.put,look_cons_eq]
  ·simp[St.put,look_cons_ne e,h.look k]
theorem EqvP.put0{s s':St}(h:EqvP s s')(dst:Option Nat)(sv:Value):EqvP (s.put dst sv) (s'.put dst sv):=by
 have:=h.put dst sv []
 simpa using this
theorem EqvP.wanted{s s':St}(h:EqvP s s')(ops:Array Oper)(o:Oper):wantedS ops o s.t=wantedS ops o s'.t:=by
 unfold wantedS
 split
 ·rfl
 ·split
  ·rw[h.look]
  ·rfl
def KCP(K:St→Prop):Prop:=∀s s',EqvP s s'→K s→K s'
theorem KCP.kc{K:St→Prop}(h:KCP K):KC K:=fun s s' he=>h s s' ⟨he.nt,he.L▸List.Perm.refl _,he.look⟩
theorem noSto{o:Oper}(h:isMov o=true∨isAl o=true):isSto o=false:=by
 unfold isSto
 split<;>first|rfl|(rename_i heq
                    rcases h with h|h
                    ·unfold isMov at h;rw[heq] at h;cases h
                    ·unfold isAl at h;rw[heq] at h;cases h)
theorem Step.some{P:Program}{bl:List Nat}{ops:Array Oper}{p:Oper}{s:St}{K:St→Prop}(hS:blS bl=false)(hA:blA bl=true)(hp:isMov p=true∨isAl p=true)(hM:isM bl=false)(h:Step P bl ops p s K):
 ∃x new,K (({s with L:=s.L++new}:St).put p.dst x):=by
 obtain⟨h0,g,hg,hh⟩:=h
 rcases hh with⟨h1,h2⟩|⟨h1,⟨h2,sv,h3,h4⟩|⟨h2,X,res,new,h3,hF,h4⟩|⟨hm,hA',hm',X,nx,h3,h4⟩|⟨hm,hd',L',h3,h5,h4⟩|⟨hA',e,cs,h3,h4⟩|⟨hC,hbS,X,res,nL,h3,h5,h4⟩⟩
 ·exact⟨undef,[],by simpa using h2⟩
 ·exact⟨sv,[],by simpa using h4⟩
 ·obtain⟨_,⟨x⟩⟩:=hF hA
  exact⟨_,_,h4 x⟩
 ·exfalso
  rcases hp with hp|hp
  ·rw[hM,show mvS bl p=true by simp[mvS,hp]] at hm;cases hm
  ·rw[hA,hp] at hA';cases hA'
 ·rw[noSto hp] at hm;cases hm
 ·exact⟨_,_,h4 0⟩
 ·rw[hS] at hbS;cases hbS
theorem at_end0{P:Program}{B:Bs}{fn:Func}{R:Ending→World→Prop}{s:St}(hfn:fn.results= #[])(hR:∀w,LRel B s.L w→R (.returned (.tuple #[])) w)(hD:B.D=[]:=by first|rfl|assumption):At B s (bodyPost P fn R .ret):=fun a w hr=>
 ⟨hr.df.trans hD,.tuple #[],by simp[results,hfn],hR w hr.mem⟩
theorem at_end0n{P:Program}{B:Bs}{fn:Func}{R:Ending→World→Prop}{s:St}(hfn:fn.results= #[])(hR:∀w,LRel B s.L w→R (.returned (.tuple #[])) w)(hD:B.D=[]:=by first|rfl|assumption):At B s (bodyPost P fn R .normal):=fun a w hr=>
 ⟨hr.df.trans hD,.tuple #[],by simp[results,hfn],hR w hr.mem⟩
def ECall(P:Program)(f:Nat)(L0:List Blk)(args:List Value)(X:Type)(res:X→Value)(L1:X→List Blk):Prop:=
 plainF P f=true∧∀(B:Bs) (w:World),B.D=[]→LRel B L0 w→Calls P f args.toArray w fun e w'=>∃x,e= .returned (res x)∧LRel B (L1 x) w'
section
variable{P:Program}{bl:List Nat}{ops:Array Oper}{K:St→Prop}{rest:List Oper}{nt:Nat}{t:List (Nat×Value)}{L:List Blk}{d:Nat}{ty:TypeId}{pos:String}{af:Array Edge}{g:Option (Nat×Bool)}{x y:Operand}
theorem r_makeFunc{f:Nat}{v:Value}(hd:Nat.blt d nt=true)(hg:wantedS ops ⟨some d,.makeFunc (.func f) #[] #[x],ty,pos,af,g⟩ t=some true)(hx:ev t x=some v)(h:Run P bl ops rest ⟨nt,(d,.func (.func f) #[] #[v])::t,L⟩ K):
 Run P bl ops (⟨some d,.makeFunc (.func f) #[] #[x],ty,pos,af,g⟩::rest) ⟨nt,t,L⟩ K:=
 run_q hd hg rfl (fun B a w hr=>by simp[execOp,Instr.makeFunc,hr.ev hx]) h
end
def bitsOf(ms:List Nat)(l:List Edge):Nat:=l.foldl (fun m e=>if Region.binds .any e then m|||((1<<<e.on)|||ms.getD e.on 0) else m) 0
def maskOK(ops:Array Oper)(ms:List Nat):Bool:=(List.range ops.size).all fun i=>match ops[i]? with
 |some o=>(o.after.toList.all fun e=> !Region.binds .any e||decide (e.on<i))&&ms.getD i 0==bitsOf ms o.after.toList
 |none=>true
theorem bits_fold{ms:List Nat}{j:Nat}:∀{l:List Edge} {m:Nat},Nat.testBit (l.foldl (fun m e=>if Region.binds .any e then m|||((1<<<e.on)|||ms.getD e.on 0) else m) m) j=true→
 Nat.testBit m j=true∨∃e∈l,Region.binds .any e=true∧(e.on=j∨Nat.testBit (ms.getD e.on 0) j=true)
 |[],m,h=> .inl h
 |e::l,m,h=>by
  rw[List.foldl_cons] at h
  rcases bits_fold h with h|⟨e',h1,h2⟩
  ·split at h
   ·rename_i hb
    rw[Nat.testBit_or,Nat.testBit_or,Bool.or_eq_true,Bool.or_eq_true] at h
    rcases h with h|h|h
    ·exact .inl h
    ·refine .inr ⟨e,by simp,hb,.inl ?_⟩
     rw[Nat.testBit_shiftLeft] at h
     simp only[Bool.and_eq_true,decide_eq_true_eq] at h
     have h3:=h.2
     by_cases c:j-e.on=0
     ·omega
     ·exfalso
      obtain⟨k,hk⟩:∃k,j-e.on=k+1:=⟨j-e.on-1,by omega⟩
      rw[hk,Nat.testBit_succ] at h3
      simp at h3
    ·exact .inr ⟨e,by simp,hb,.inr h⟩
   ·exact .inl h
  ·exact .inr ⟨e',by simp[h1],h2⟩
theorem mask_waits{ops:Array Oper}{ms:List Nat}(hm:maskOK ops ms=true):∀(f i j:Nat),i<f→i<ops.size→Nat.testBit (ms.getD i 0) j=true→waitsF ops f i j=true
 |0,i,j,h,_,_=>by omega
 |f+1,i,j,h,hi,hb=>by
  have h1:=List.all_eq_true.1 hm i (List.mem_range.2 hi)
  rw[Array.getElem?_eq_getElem hi] at h1
  simp only[Bool.and_eq_true,beq_iff_eq] at h1
  obtain⟨h2,h3⟩:=h1
  rw[h3] at hb
  unfold waitsF
  rw[Array.getElem?_eq_getElem hi]
  rcases bits_fold hb with hb|⟨e,he,hbe,hj⟩
  ·simp at hb
  ·have hlt:e.on<i:=by
    have:=List.all_eq_true.1 h2 e he
    rw[hbe] at this
    simpa using this
   refine Array.any_eq_true'.2 ⟨e,by simpa using he,?_⟩
   rw[hbe,Bool.true_and,Bool.or_eq_true]
   rcases hj with hj|hj
   ·exact .inl (by simpa using hj)
   ·exact .inr (mask_waits hm f e.on j (by omega) (by omega) hj)
def pairM(bl:List Nat)(ops:Array Oper)(ms:List Nat)(p i:Nat):Bool:=
 Nat.testBit (ms.getD i 0) p||
 match ops[p]?,ops[i]? with
 |some op,some oi=>isMov op&&isFr bl oi&& !isCall op&&op.apart ops oi
 |_,_=>false
theorem pairsB_mono{f g:Nat→Nat→Bool}:∀{l:List Nat},(∀p∈l,∀i∈l,f p i=true→g p i=true)→pairsB f l=true→pairsB g l=true
 |[],_,_=>rfl
 |p::l,h,hf=>by
  simp only[pairsB,Bool.and_eq_true] at hf ⊢
  exact⟨List.all_eq_true.2 fun i hi=>h p (by simp) i (by simp[hi]) (List.all_eq_true.1 hf.1 i hi),pairsB_mono (fun p hp i hi=>h p (by simp[hp]) i (by simp[hi])) hf.2⟩
def drawnMOk(bl:List Nat)(ops:Array Oper)(perm:List Nat)(ms:List Nat):Bool:=
 maskOK ops ms&&(decide (perm.length=ops.size)&&perm.all (fun i=>decide (i<ops.size))&&(List.range ops.size).all (fun i=>perm.contains i)&&
 pairsB (pairM bl ops ms) perm&&pairsB (noWait ops) perm&&perm.all (fun i=>noWait ops i i)&&perm.all (fun i=>edgesIn ops i)&&pairsB (dstApart bl ops) perm&&pairsB (movFirst bl ops) perm&&pairsB (fun i j=>i !=j) perm)
theorem drawnM{bl:List Nat}{ops:Array Oper}{perm:List Nat}(ms:List Nat)(h:drawnMOk bl ops perm ms=true):drawnOk bl ops perm=true:=by
 unfold drawnMOk at h
 rw[Bool.and_eq_true] at h
 obtain⟨hm,h⟩:=h
 unfold drawnOk
 simp only[Bool.and_eq_true] at h ⊢
 obtain⟨⟨⟨⟨⟨⟨⟨⟨⟨h1,h2⟩,h3⟩,h4⟩,h5⟩,h6⟩,h7⟩,h8⟩,h9⟩,h10⟩:=h
 refine⟨⟨⟨⟨⟨⟨⟨⟨⟨h1,h2⟩,h3⟩,pairsB_mono (fun p hp i hi hpi=>?_) h4⟩,h5⟩,h6⟩,h7⟩,h8⟩,h9⟩,h10⟩
 have hil:i<ops.size:=of_decide_eq_true (List.all_eq_true.1 h2 i hi)
 unfold pairM at hpi
 unfold pairOk
 rw[Bool.or_eq_true] at hpi ⊢
 exact hpi.imp (mask_waits hm _ i p hil hil) id
section
variable{P:Program}{bl:List Nat}{ops:Array Oper}{K:St→Prop}{rest:List Oper}{nt:Nat}{t:List (Nat×Value)}{L:List Blk}{d:Nat}{ty:TypeId}{pos:String}{af:Array Edge}{g:Option (Nat×Bool)}{x y:Operand}
theorem r_minI{ts:Array TypeId}{k k':IntKind}{m n:Int}(hd:Nat.blt d nt=true)(hg:wantedS ops ⟨some d,.call {callee:= .builtin .min,args:= #[x,y],argTypes:=ts},ty,pos,af,g⟩ t=some true)(hx:ev t x=some (.int k m))(hy:ev t y=some (.int k' n))
 (h:Run P bl ops rest ⟨nt,(d,.int k (min m n))::t,L⟩ K):Run P bl ops (⟨some d,.call {callee:= .builtin .min,args:= #[x,y],argTypes:=ts},ty,pos,af,g⟩::rest) ⟨nt,t,L⟩ K:=
 run_q hd hg rfl (fun B a w hrel=>by
 have e:min m n=if n<m then n else m:=by split<;>omega
 simp[execOp,resolve,invoke,builtin,hrel.ev hx,hrel.ev hy,run_min_int2,e]) h
theorem r_maxI{ts:Array TypeId}{k k':IntKind}{m n:Int}(hd:Nat.blt d nt=true)(hg:wantedS ops ⟨some d,.call {callee:= .builtin .max,args:= #[x,y],argTypes:=ts},ty,pos,af,g⟩ t=some true)(hx:ev t x=some (.int k m))(hy:ev t y=some (.int k' n))
 (h:Run P bl ops rest ⟨nt,(d,.int k (max m n))::t,L⟩ K):Run P bl ops (⟨some d,.call {callee:= .builtin .max,args:= #[x,y],argTypes:=ts},ty,pos,af,g⟩::rest) ⟨nt,t,L⟩ K:=
 run_q hd hg rfl (fun B a w hrel=>by
 have e:max m n=if m<n then n else m:=by split<;>omega
 simp[execOp,resolve,invoke,builtin,hrel.ev hx,hrel.ev hy,run_max_int2,e]) h
end
theorem Oper.wp_monoQ{P:Program}{o:Oper}{a:Act}{w:World}{K K':Act→World→Prop}{Q Q':Exit→Act→World→Prop}(h:∀a w,K a w→K' a w)
 (hp:∀c a w,Q (.panic c) a w→Q' (.panic c) a w)(hl:LetsOut Q→LetsOut Q')(hh:o.wp P a w K Q):o.wp P a w K' Q':=by
 unfold Oper.wp at*
 generalize(execOp a.eval o).run P w=r at*
 cases r with
 |ok n w'=>
  cases n<;>simp only[Oper.upon] at hh ⊢ <;>
   first
    |exact h _ _ hh
    |exact Calls.mono hh (fun e w'' he=>by cases e<;>first|exact h _ _ he|exact hp _ _ _ he|exact hl he)
    |exact Rows.mono hh (fun _ _ he=>h _ _ he)
 |halt x w'=>cases x<;>simp only[Oper.upon] at hh ⊢ <;>first|exact hp _ _ _ hh|exact hh
theorem wpAny_monoQ{P:Program}{md:Region.Mode}{ops:Array Oper}{Q Q':Exit→Act→World→Prop}(hn:∀a w,Q .normal a w→Q' .normal a w)
 (hp:∀c a w,Q (.panic c) a w→Q' (.panic c) a w)(hl:LetsOut Q→LetsOut Q'):∀(n:Nat) (listed:Array Bool) (a:Act) (w:World),wpAny P md ops Q n listed a w→wpAny P md ops Q' n listed a w
 |0,_,_,_,h=>⟨h.1,hn _ _ h.2⟩
 |n+1,listed,a,w,h=>⟨fun h0=>hn _ _ (h.1 h0),fun i hi=>by
 have h1:=h.2 i hi
 unfold wpOp at h1 ⊢
 split
 ·rename_i ho;rw[ho] at h1;exact wpAny_monoQ hn hp hl n _ _ _ h1
 ·rename_i o ho
  rw[ho] at h1
  dsimp only at h1
  split
  ·rename_i hw
   rw[if_pos hw] at h1
   exact h1.imp (Oper.wp_monoQ (wpAny_monoQ hn hp hl n _) hp hl) (fun h2=>⟨h2.1,hl h2.2⟩)
  ·rename_i hw
   rw[if_neg hw] at h1
   exact wpAny_monoQ hn hp hl n _ _ _ h1⟩
def takesOk(ops:Array Oper):Array Bool→List Nat→Bool
 |_,[]=>true
 |listed,i::E=>(match ops[i]? with
 |some o=>isMov o&& !isCall o
 |none=>false)&&Region.free .any ops listed i&&(Region.ready .any ops listed).contains i&&takesOk ops (listed.setIfInBounds i true) E
def noPanic(X:Act→World→Prop):Exit→Act→World→Prop
 | .normal,a,w=>X a w
 |_,_,_=>False
theorem wpAny_takes{P:Program}{ops:Array Oper}{X:Act→World→Prop}{B:Bs}{w:World}{nt:Nat}{L:List Blk}{n:Nat}(hsel:Region.noSelect ops=true){G:List (Nat×Value)→Array Bool→Prop}
 (hG:∀(t:List (Nat×Value)) (listed:Array Bool) (a:Act),G t listed→Rel B ⟨nt,t,L⟩ a w→wpAny P .any ops (noPanic X) n listed a w):
 ∀(E:List Nat) (listed:Array Bool) (t:List (Nat×Value)) (a:Act),takesOk ops listed E=true→
  Run P [] ops (E.map fun i=>ops.getD i default) ⟨nt,t,[]⟩ (fun s'=>G s'.t (E.foldl (fun(x:Array Bool) i=>x.setIfInBounds i true) listed))→Rel B ⟨nt,t,L⟩ a w→wpAny P .any ops (noPanic X) (E.length+n) listed a w
 |[],listed,t,a,_,hr,h=>by rw[show([]:List Nat).length+n=n by simp];exact hG t listed a hr h
 |i::E,listed,t,a,hc,hr,h=>by
  simp only[takesOk,Bool.and_eq_true,Bool.not_eq_true'] at hc
  obtain⟨⟨⟨hk,hf⟩,hrd⟩,hE⟩:=hc
  cases ho:ops[i]? with
  |none=>rw[ho] at hk;cases hk
  |some o=>
   rw[ho] at hk
   simp only[Bool.and_eq_true,Bool.not_eq_true'] at hk
   obtain⟨hmv,hcl⟩:=hk
   have hoid:ops.getD i default=o:=by simp[ho]
   have hr1:Step P [] ops (ops.getD i default) ⟨nt,t,[]⟩ (fun s'=>Run P [] ops (E.map fun i=>ops.getD i default) s' (fun s'=>G s'.t (E.foldl (fun(x:Array Bool) i=>x.setIfInBounds i true) (listed.setIfInBounds i true)))):=hr
   rw[hoid] at hr1
   obtain⟨h0,g,hg,hh⟩:=hr1
   have hw:=wantedS_spec h hg
   have hrel0:∀w':World,Rel ⟨w',fun _=>False,B.D⟩ ⟨nt,t,[]⟩ a w':=fun w'=>⟨h.df,h.size,h.tmp,⟨⟨rfl,rfl,rfl,Nat.le_refl _,fun _ _ _=>rfl⟩,fun k b hk=>by simp at hk,(fun i j g bi bj hij hi=>by simp at hi),GrpOK.nil _ _⟩⟩
   have hnsto:isSto o=false:=by
    unfold isSto;unfold isMov at hmv
    split<;>first|rfl|(rename_i heq;rw[heq] at hmv;cases hmv)
   have hnal:isAl o=false:=by
    unfold isAl;unfold isMov at hmv
    split
    ·rename_i heq;rw[heq] at hmv;cases hmv
    ·rfl
   obtain⟨v,hy,hk⟩:∃v,Go.Yields P ops o v a∧Run P [] ops (E.map fun i=>ops.getD i default) ((⟨nt,t,[]⟩:St).put o.dst v) (fun s'=>G s'.t (E.foldl (fun(x:Array Bool) i=>x.setIfInBounds i true) (listed.setIfInBounds i true))):=by
    rcases hh with⟨h1,h2⟩|⟨h1,⟨h2,v,h3,h4⟩|⟨h2,_⟩|⟨hm,_⟩|⟨hm,_⟩|⟨hm,_⟩|⟨_,hm,_⟩⟩
    ·exact⟨undef,.inr ⟨by rw[hw,h1],rfl⟩,h2⟩
    ·exact⟨v,.inl ⟨by rw[hw,h1],fun w'=>h3.1 _ a w' (hrel0 w')⟩,h4⟩
    ·rw[hcl] at h2;cases h2
    ·simp[isM,mvS,hmv] at hm
    ·rw[hnsto] at hm;cases hm
    ·rw[hnal] at hm;cases hm
    ·cases hm
   rw[show(i::E).length+n=(E.length+n)+1 by simp;omega]
   refine wpAny_take ho hsel hf hrd (fun c a w hq=>hq.elim) hy ?_
   have hput:(⟨nt,t,[]⟩:St).put o.dst v=⟨nt,((⟨nt,t,[]⟩:St).put o.dst v).t,[]⟩:=by cases o.dst<;>rfl
   rw[hput] at hk
   refine wpAny_takes hsel hG E _ _ _ hE hk ?_
   have h5:=h.put0 (dst:=o.dst) (v:=v) h0
   have h6:(⟨nt,t,L⟩:St).put o.dst v=⟨nt,((⟨nt,t,[]⟩:St).put o.dst v).t,L⟩:=by cases o.dst<;>rfl
   rw[←h6];exact h5
theorem tr_nil{P:Program}{ops:Array Oper}{K:St→Prop}{listed:Array Bool}{s:St}(h:Region.ready .any ops listed=[])(hk:K s):Tree P ops K 0 listed s:=⟨h,hk⟩
section
variable{P:Program}{bl:List Nat}{ops:Array Oper}{K:St→Prop}{rest:List Oper}{nt:Nat}{t:List (Nat×Value)}{L:List Blk}{d:Nat}{ty:TypeId}{pos:String}{af:Array Edge}{g:Option (Nat×Bool)}{x y:Operand}
theorem r_lenV{T e:Nat}{b:Option Addr}{len cap:Nat}(hT:P.underlying T=some (.slice e))(hd:Nat.blt d nt=true)(hg:wantedS ops ⟨some d,.call {callee:= .builtin .len,args:= #[x],argTypes:= #[T]},ty,pos,af,g⟩ t=some true)(hx:ev t x=some (.slice b len cap))(h:Run P bl ops rest ⟨nt,(d,.int .i64 len)::t,L⟩ K):
 Run P bl ops (⟨some d,.call {callee:= .builtin .len,args:= #[x],argTypes:= #[T]},ty,pos,af,g⟩::rest) ⟨nt,t,L⟩ K:=
 run_q hd hg rfl (fun B a w hrel=>by
 have he:P.elem T=e:=by simp[Program.elem,hT]
 have:=run_len_slice (P:=P) w T ty b len cap (by rw[he];exact hT)
 have h2:=hrel.ev hx
 simp[execOp,resolve,invoke,builtin,h2,this,goInt]) h
theorem r_sliceMO{T e:Nat}{b:Option Nat}{off len cap off' n' c':Nat}{ki:IntKind}{inf:TI}(l:Nat)(hT:P.underlying T=some (.slice e))(hinf:tiOK P e inf=true)(hd:Nat.blt d nt=true)(hg:wantedS ops ⟨some d,.slice T x (some y) none none,ty,pos,af,g⟩ t=some true)(hx:ev t x=some (slv b off len cap))(hy:ev t y=some (.int ki (l:Nat)))(h1:l≤len)(e1:(if cap=l then off else off+l*inf.size)=off')(e2:len-l=n')(e3:cap-l=c')
 (h:Run P bl ops rest ⟨nt,(d,slv b off' n' c')::t,L⟩ K):Run P bl ops (⟨some d,.slice T x (some y) none none,ty,pos,af,g⟩::rest) ⟨nt,t,L⟩ K:=by
 subst e1;subst e2;subst e3
 exact run_q hd hg rfl (fun B a w hrel=>by
 have he:P.elem T=e:=by simp[Program.elem,hT]
 have hT':P.underlying T=some (.slice (P.elem T)):=by rw[he];exact hT
 have h2:=hrel.ev hx
 have h3:=hrel.ev hy
 unfold slv at h2
 have r1:=run_sliceAt_slice (P:=P) w T (.slice (b.map fun g=>⟨g,off,none⟩) len cap) (some (.int ki (l:Nat))) none none hT'
 rw[run_slice_l (P:=P) w T (b.map fun g=>⟨g,off,none⟩) len cap hT' ki (l:Nat) (by omega) (by omega),he,ti_sizeOf hinf w] at r1
 simp only[Result.andThen_ok] at r1
 have e1:sliced (b.map fun g=>(⟨g,off,none⟩:Addr)) ((l:Nat):Int).toNat len cap inf.size=slv b (if cap=l then off else off+l*inf.size) (len-l) (cap-l):=by
  unfold sliced slv
  rw[Int.toNat_natCast]
  by_cases hc:cap=l
  ·rw[if_pos hc,if_pos hc]
  ·rw[if_neg hc,if_neg hc];cases b<;>simp[add_lit]
 rw[e1] at r1
 simp[execOp,h2,h3,r1]) h
end
theorem pre_get{pre C v:List Value}{k n m:Nat}(h:(C.drop k).take n=v)(e:m=pre.length+k):((pre++C).drop m).take n=v:=by
 subst e
 rw[List.drop_length_add_append]
 exact h
theorem pre_ne{pre C:List Value}(h:C≠[]):pre++C≠[]:=by simp[h]
end Go.Via
namespace Go.Via
open Go Go.RowKit Go.MapKept
abbrev IM:=List (Int×Value)
def kvI(l:IM):List (Value×Value):=l.map fun p=>(.int .i64 p.1,p.2)
def kvE(e:MapEntry):Value×Value:=(e.key,e.val)
noncomputable def mI(l:IM):Nat:=mE (kvI l)
def simpleM(l:IM):Bool:=l.all fun p=>Value.simple p.2
theorem simpleM_kv{l:IM}(h:simpleM l=true):simpleL (kvI l)=true:=by
 unfold simpleL kvI
 rw[List.all_map]
 refine List.all_eq_true.2 fun p hp=>?_
 have:=List.all_eq_true.1 h p hp
 simp[Value.simple,Value.simple0] at this ⊢
 exact this
theorem LRel.map{B:Bs}{w:World}{L:List Blk}(h:LRel B L w){k:Nat}{g:Nat}{l:IM}{own:Bool}(hs:simpleM l=true)(hk:L[k]? =some ⟨some g,mI l,[],0,own⟩):
 ∃es clock,w.heap[g]? =some (.map es clock)∧es.toList.map kvE=kvI l∧Stamped es clock:=by
 rcases((h.blk k _ hk).1 g rfl).1 with⟨cur,⟨_,_,_,_,hlt⟩,_⟩|⟨l',es,clock,a1,_,_,a4,a5,a6,a7⟩
 ·exact absurd hlt (mE_ge _)
 ·have e:kvI l=l':=by
   rcases a1 with a1|⟨_,_,a1,_⟩
   ·exact mE_inj (simpleM_kv hs) a4 a1
   ·exact absurd a1 mEQ_ne
  subst e
  exact⟨es,clock,a5,a6,a7⟩
section
variable{P:Program}{bl:List Nat}{ops:Array Oper}{K:St→Prop}{rest:List Oper}{nt:Nat}{t:List (Nat×Value)}{L:List Blk}{d:Nat}{ty:TypeId}{pos:String}{af:Array Edge}{gd:Option (Nat×Bool)}{x y z:Operand}
theorem r_makeMap{T:Nat}(mk:Nat→List Blk)(hd:Nat.blt d nt=true)(hg:wantedS ops ⟨some d,.makeMap T none,ty,pos,af,gd⟩ t=some true)(hL:∀b,L++[⟨some b,mI [],[],0,true⟩]=mk b)
 (h:∀b,Run P bl ops rest ⟨nt,(d,.map (some b))::t,mk b⟩ K):Run P bl ops (⟨some d,.makeMap T none,ty,pos,af,gd⟩::rest) ⟨nt,t,L⟩ K:=
 run_e hd hg rfl rfl (X:=Nat) (nx:=fun b=>⟨nt,(d,.map (some b))::t,mk b⟩) (fun hd'=>eff_of fun B a w hr=>by
 refine⟨.map (some w.heap.size),w.alloc (.map #[] 0),w.heap.size,by simp[execOp,Instr.makeMap],?_⟩
 rw[←hL]
 refine hr.put hd' (hr.mem.ext ((Below.refl _ _).alloc (Nat.le_refl _) _) (fun k b hk=>?_) (fun i j g bi bj hij hi hj=>?_))
 ·cases k with
  |zero=>
   simp at hk;subst hk
   refine⟨fun g hg=>?_,fun hg=>by cases hg⟩
   simp only[Option.some.injEq] at hg
   subst hg
   exact⟨⟨.inr ⟨[],#[],0,.inl rfl,rfl,rfl,rfl,heap_alloc_new w _,rfl,stamped_empty 0⟩,fun _=> .inl hr.mem.bel.size⟩,Nat.le_refl _⟩
  |succ k=>simp at hk
 ·cases i with
  |zero=>cases j with
   |zero=>exact absurd rfl hij
   |succ j=>simp at hj
  |succ i=>simp at hi) fun b=>h b
theorem blank_set{k:Nat}{b:Blk}:∀{bl:List Nat} {L:List Blk},(bl.contains k&&Nat.blt k 1000000)=true→blank bl (L.set k b)=blank bl L
 |[],L,h=>by simp at h
 |j::bl,L,h=>by
  unfold blank
  by_cases e:j=k
  ·subst e
   have hb:Nat.blt j 1000000=true:=by simp only[Bool.and_eq_true] at h;exact h.2
   rw[hb]
   simp only[cond_true,List.set_set]
  ·have h':(bl.contains k&&Nat.blt k 1000000)=true:=by
    simp only[Bool.and_eq_true,List.contains_cons] at h ⊢
    refine⟨?_,h.2⟩
    rcases(show k=j∨bl.contains k=true by simpa using h.1) with h1|h1
    ·exact absurd h1.symm e
    ·exact h1
   cases Nat.blt j 1000000 with
   |false=>exact blank_set h'
   |true=>
    simp only[cond_true]
    rw[List.set_comm _ _ (fun e'=>e e'.symm)]
    exact blank_set h'
def blOk(bl:List Nat)(kk:Nat):Bool:= !blS bl||(bl.contains kk&&Nat.blt kk 1000000)
theorem blOk_spec{bl:List Nat}{kk:Nat}{L L':List Blk}{b:Blk}(h:blOk bl kk=true)(hL:L.set kk b=L'):blS bl=true→blank bl L'=blank bl L:=fun hs=>by
 unfold blOk at h
 rw[hs] at h
 rw[←hL]
 exact blank_set (by simpa using h)
end
end Go.Via
namespace Go.Via
open Go Go.RowKit
section
variable{P:Program}{bl:List Nat}{ops:Array Oper}{K:St→Prop}{rest:List Oper}{nt:Nat}{t:List (Nat×Value)}{L:List Blk}{d:Nat}{ty:TypeId}{pos:String}{af:Array Edge}{g:Option (Nat×Bool)}{x y:Operand}
theorem r_makeFunc2{f:Nat}{v u:Value}(hd:Nat.blt d nt=true)(hg:wantedS ops ⟨some d,.makeFunc (.func f) #[] #[x,y],ty,pos,af,g⟩ t=some true)(hx:ev t x=some v)(hy:ev t y=some u)(h:Run P bl ops rest ⟨nt,(d,.func (.func f) #[] #[v,u])::t,L⟩ K):
 Run P bl ops (⟨some d,.makeFunc (.func f) #[] #[x,y],ty,pos,af,g⟩::rest) ⟨nt,t,L⟩ K:=
 run_q hd hg rfl (fun B a w hr=>by simp[execOp,Instr.makeFunc,hr.ev hx,hr.ev hy]) h
end
structure OR(need s:Nat) where
 b:Option Nat
 n:Nat
 cap:Nat
 h:need≤cap
 hn:cap*s≤n
section
variable{P:Program}{bl:List Nat}{ops:Array Oper}{K:St→Prop}{rest:List Oper}{nt:Nat}{t:List (Nat×Value)}{L:List Blk}{d:Nat}{ty:TypeId}{pos:String}{af:Array Edge}{g:Option (Nat×Bool)}{x y:Operand}
theorem r_fieldAddrG{T:Nat}{j:Nat}{i:TI}{gg:Nat}(off fo:Nat){fs:Nat}(hd:Nat.blt d nt=true)(hg:wantedS ops ⟨some d,.fieldAddr T x j,ty,pos,af,g⟩ t=some true)(hx:ev t x=some (.pointer (some ⟨gg,off,none⟩)))(hi:tiOK P T i=true)
 (hf:i.flds[j]? =some (fo,fs+1)){off':Nat}(ho:off+fo=off')(h:Run P bl ops rest ⟨nt,(d,.pointer (some ⟨gg,off',none⟩))::t,L⟩ K):
 Run P bl ops (⟨some d,.fieldAddr T x j,ty,pos,af,g⟩::rest) ⟨nt,t,L⟩ K:=
 run_q hd hg rfl (fun B a w hr=>by
 have h2:=hr.ev hx
 obtain⟨fs',f,h3,h4,h5,h6⟩:=ti_fld hi hf
 simp only at h5 h6
 have hsz:(sizeOf f.type).run P w= .ok (fs+1) w:=by
  cases hq:P.info? f.type with
  |none=>rw[hq] at h6;simp at h6
  |some inf=>rw[hq] at h6;simp at h6;simp[sizeOf,typeInfo,hq,h6]
 subst ho
 simp[execOp,h2,Instr.fieldAt,run_underlying h3,h4,Instr.sureAddr,fieldPlace,hsz,add_lit,h5]) h
end
theorem at_drawnEM{P:Program}{B:Bs}{Q:Exit→Act→World→Prop}{nt:Nat}{t:List (Nat×Value)}{L:List Blk}{id:Nat}{l l':List Oper}{X:Type}(Tm:X→List (Nat×Value))(Lm:X→List Blk)(E:List Nat)(n:Nat)(hm:P.follows .mixedOrders=true)
 (hc:(Region.noSelect l.toArray&&takesOk l.toArray (Array.replicate l.toArray.size false) E&&decide (E.length+n=l.toArray.size))=true)(hl:E.map (fun i=>l.toArray.getD i default)=l')
 (h:Run P [] l.toArray l' ⟨nt,t,[]⟩ (fun s'=>Tree P l.toArray (fun s'=>∃x:X,s'.nt=nt∧LookAll s'.t (Tm x)∧List.Perm s'.L (Lm x)) n (E.foldl (fun(x:Array Bool) i=>x.setIfInBounds i true) (Array.replicate l.toArray.size false)) ⟨nt,s'.t,L⟩))
 (hk:∀x,At B ⟨nt,Tm x,Lm x⟩ (Q .normal)):
 At B ⟨nt,t,L⟩ ((Code.region id l.toArray true).wp P Q):=fun a w hr=>by
 simp only[Bool.and_eq_true,decide_eq_true_eq] at hc
 obtain⟨⟨h1,h2⟩,h3⟩:=hc
 subst hl
 refine wp_region_any hm ?_
 suffices hs:wpAny P .any l.toArray Q (E.length+n) (Array.replicate l.toArray.size false) a {w with drawn:=w.drawn+1} by rw[h3] at hs;exact hs
 refine wpAny_monoQ (Q:=noPanic (Q .normal)) (Q':=Q) (fun _ _ h=>h) (fun _ _ _ h=>h.elim) (fun⟨_,_,h⟩=>h.elim) _ _ _ _ ?_
 refine wpAny_takes (B:=B) (G:=fun t listed=>Tree P l.toArray (fun s'=>∃x:X,s'.nt=nt∧LookAll s'.t (Tm x)∧List.Perm s'.L (Lm x)) n listed ⟨nt,t,L⟩) h1 (fun t listed a hG hrel=>wp_tree (Q:=noPanic (Q .normal)) (fun s' a' w' ⟨x,q1,q2,q3⟩ hr'=>hk x a' w' (by
 have:=hr'.sub (t:=Tm x) fun d v hd=>q2.mem (d,v) (look_mem hd)
 rw[q1] at this
 exact⟨this.df,this.size,this.tmp,this.mem.perm q3⟩)) _ _ _ _ _ hG hrel) E _ t a h2 h hr.drew
noncomputable abbrev gB(T:Tab)(own:Bool):Blk:=⟨none,gE T,[],0,own⟩
theorem LRel.tab{B:Bs}{w:World}{L:List Blk}(h:LRel B L w){k:Nat}{T:Tab}{own:Bool}(hk:L[k]? =some (gB T own))(hT:gtOK T=true){p:Nat×List Value}(hp:p∈T):
 TabCell w p∧(own=true→B.own p.1)∧∀c∈L,c.own=true→c.base≠some p.1:=h.grp _ (List.mem_of_getElem? hk) rfl T hT rfl p hp
theorem LRel.tabBlk{B:Bs}{w:World}{L:List Blk}(h:LRel B L w){k:Nat}{T:Tab}{own:Bool}(hk:L[k]? =some (gB T own))(hT:gtOK T=true){g:Nat}{cs:List Value}(hp:(g,cs)∈T)(hn:noTy cs=true):
 ∃n full,Agr cs full∧LRel B (L++[⟨some g,0,full,n,false⟩]) w:=by
 obtain⟨h0,_,h3⟩:=h.tab hk hT hp
 obtain⟨cur,e',fr,h1,h2⟩:=h0.resolve_right fun⟨_,_,_,e⟩=>by rw[show cs=itRow _ _ from e] at hn;cases hn
 have h2:Agr cs (cur.toList.take cs.length):=h2.elim And.right fun e=>by rw[show cs=tyRow e' cur.size from e] at hn;cases hn
 refine⟨cur.size,cur.toList.take cs.length,h2,h.bel,fun m b hm=>?_,fun i j g' bi bj hij hi hj ho hg hgj=>?_,h.grp.app (fun b hb hn=>?_) (fun b hb hn T hT he p hp c hc ho=>?_) (fun b hb hn=>?_)⟩
 ·rw[List.getElem?_append] at hm
  split at hm
  ·exact h.blk m b hm
  ·cases hq:m-L.length with
   |succ q=>rw[hq] at hm;simp at hm
   |zero=>
    rw[hq] at hm
    simp only[List.getElem?_cons_zero,Option.some.injEq] at hm
    subst hm
    refine⟨fun g' hg'=>?_,fun hn=>by cases hn⟩
    cases hg'
    exact⟨.inl ⟨cur,⟨e',fr,h1,(fun h=>by cases h),(by decide:(0:Nat)<mapMark)⟩,rfl,by show List.take (List.take cs.length cur.toList).length cur.toList=_;rw[List.length_take,←List.take_take,List.take_length]⟩,fun h=>by cases h⟩
 ·rw[List.getElem?_append] at hi hj
  split at hi
  ·split at hj
   ·exact h.apart i j g' bi bj hij hi hj ho hg hgj
   ·cases hq:j-L.length with
    |succ q=>rw[hq] at hj;simp at hj
    |zero=>
     rw[hq] at hj
     simp only[List.getElem?_cons_zero,Option.some.injEq] at hj
     subst hj
     cases hgj
     exact h3 bi (List.mem_of_getElem? hi) ho hg
  ·cases hq:i-L.length with
   |succ q=>rw[hq] at hi;simp at hi
   |zero=>
    rw[hq] at hi
    simp only[List.getElem?_cons_zero,Option.some.injEq] at hi
    subst hi
    cases ho
 ·rw[List.mem_singleton.1 hb] at hn;cases hn
 ·rw[List.mem_singleton.1 hc] at ho;cases ho
 ·rw[List.mem_singleton.1 hb] at hn;cases hn
section
variable{P:Program}{bl:List Nat}{ops:Array Oper}{K:St→Prop}{rest:List Oper}{nt:Nat}{t:List (Nat×Value)}{L:List Blk}{d:Nat}{ty:TypeId}{pos:String}{af:Array Edge}{g:Option (Nat×Bool)}
theorem r_loadT{T:Nat}{x:Operand}{i:TI}{v:Value}{gg:Nat}{Tb:Tab}{own:Bool}{cs:List Value}(k off:Nat)(vs:List Value)(hd:Nat.blt d nt=true)(hg:wantedS ops ⟨some d,.load T x,ty,pos,af,g⟩ t=some true)(hk:(blank bl L)[k]? =some (gB Tb own))(hT:gtOK Tb=true)(hp:(gg,cs)∈Tb)(hnt:noTy cs=true)
 (hx:ev t x=some (.pointer (some ⟨gg,off,none⟩)))(hi:tiOK P T i=true)(hvs:(cs.drop off).take i.size=vs)(hlen:vs.length=i.size)(hpos:Nat.blt 0 i.size=true)(hv:(bif i.agg then some (.agg vs.toArray) else vs[0]?)=some v)(h:Run P bl ops rest ⟨nt,(d,v)::t,L⟩ K)(hnh:vs.all (fun v=> !isHole v)=true:=by rfl):
 Run P bl ops (⟨some d,.load T x,ty,pos,af,g⟩::rest) ⟨nt,t,L⟩ K:=by
 refine run_q hd hg rfl (fun B a w hr=>?_) h
 obtain⟨n,full,hag,h'⟩:=hr.mem.tabBlk hk hT hp hnt
 have hr':Rel B ⟨nt,t,blank bl L++[⟨some gg,0,full,n,false⟩]⟩ a w:=⟨hr.df,hr.size,hr.tmp,h'⟩
 exact q_load (s:=⟨nt,t,blank bl L++[⟨some gg,0,full,n,false⟩]⟩) (b:=⟨some gg,0,full,n,false⟩) rfl (blank bl L).length (by simp) hx hi (hag.cut hvs hlen hnh) hlen (by simpa using hpos) hv B a w hr'
end
theorem LRel.setG{B:Bs}{w:World}{L:List Blk}(h:LRel B L w){j:Nat}{b:Blk}(hj:L[j]? =some b)(hb:b.base=none)(T:Tab)(o:Bool)(hT:gtOK T=true)
 (hf:∀p∈T,TabCell w p∧(o=true→B.own p.1)∧∀c∈L,c.own=true→c.base≠some p.1):LRel B (L.set j (gB T o)) w:=by
 have hjl:=(List.getElem?_eq_some_iff.1 hj).1
 have at_:∀(m:Nat) (c:Blk),(L.set j (gB T o))[m]? =some c→c=gB T o∨(m≠j∧L[m]? =some c):=fun m c hm=>by
  by_cases e:j=m
  ·subst e;rw[List.getElem?_set_self hjl] at hm;cases hm;exact .inl rfl
  ·rw[List.getElem?_set_ne e] at hm;exact .inr ⟨fun h=>e h.symm,hm⟩
 have mem_:∀c∈L.set j (gB T o),c=gB T o∨c∈L:=fun c hc=>(List.mem_or_eq_of_mem_set hc).symm
 refine⟨h.bel,fun m c hm=>?_,fun i k g bi bk hik hi hk ho hg hgk=>?_,fun c hc hn U hU he p hp=>?_⟩
 ·rcases at_ m c hm with rfl|⟨_,h1⟩
  ·exact⟨fun g hg=>(by cases hg),fun _=>⟨rfl,rfl⟩⟩
  ·exact h.blk m c h1
 ·rcases at_ i bi hi with rfl|⟨_,h1⟩
  ·cases hg
  ·rcases at_ k bk hk with rfl|⟨_,h2⟩
   ·cases hgk
   ·exact h.apart i k g bi bk hik h1 h2 ho hg hgk
 ·rcases mem_ c hc with rfl|h1
  ·obtain rfl:=gE_inj hT hU he
   obtain⟨a1,a2,a3⟩:=hf p hp
   refine⟨a1,a2,fun c' hc' ho'=>?_⟩
   rcases mem_ c' hc' with rfl|h2
   ·intro e;cases e
   ·exact a3 c' h2 ho'
  ·obtain⟨a1,a2,a3⟩:=h.grp c h1 hn U hU he p hp
   refine⟨a1,a2,fun c' hc' ho'=>?_⟩
   rcases mem_ c' hc' with rfl|h2
   ·intro e;cases e
   ·exact a3 c' h2 ho'
theorem Weak.newG(L:List Blk):Weak L (L++[gB [] true]):=fun B w h=>by
 have h1:LRel B (L++[blk0]) w:=h.ext (new:=[blk0]) (Below.refl _ _) (fun k b hk=>by
 cases k with
 |zero=>simp at hk;subst hk;exact⟨fun g hg=>(by cases hg),fun _=>⟨rfl,rfl⟩⟩
 |succ k=>simp at hk) (fun i j g bi bj hij hi hj hg=>by
 cases i with
 |zero=>simp at hi;subst hi;cases hg
 |succ i=>simp at hi) (fun b hb hn=>by rw[List.mem_singleton.1 hb];decide)
 have h2:=h1.setG (j:=L.length) (b:=blk0) (by simp) rfl [] true rfl (fun p hp=>by cases hp)
 rw[List.set_append_right _ _ (Nat.le_refl _),Nat.sub_self] at h2
 exact h2
theorem Weak.shut{L:List Blk}{i j:Nat}{T:Tab}{own:Bool}{g e n:Nat}{cs:List Value}(hi:L[i]? =some ⟨some g,e,cs,n,true⟩)(hj:L[j]? =some (gB T own))(hT:gtOK T=true)(hcs:cs.all Value.simpleT=true)(hnt:noTy cs=true)(hne:n≠0∨cs≠[])
 {L':List Blk}(hL:(L.set i blk0).set j (gB ((g,cs)::T) own)=L'):Weak L L':=fun B w h=>by
 subst hL
 have hij:i≠j:=fun e'=>by subst e';rw[hi] at hj;cases hj
 have hil:=(List.getElem?_eq_some_iff.1 hi).1
 have hb:=h.blank1 i
 have hother:∀c∈L.set i blk0,c.own=true→c.base≠some g:=fun c hc ho hg=>by
  obtain⟨m,hm⟩:=List.mem_iff_getElem?.1 hc
  by_cases e':i=m
  ·subst e';rw[List.getElem?_set_self hil] at hm;cases hm;cases ho
  ·rw[List.getElem?_set_ne e'] at hm
   exact h.apart i m g _ c e' hi hm rfl rfl hg
 refine hb.setG (j:=j) (b:=gB T own) (by rw[List.getElem?_set_ne hij];exact hj) rfl _ own (by rw[gtOK_cons,hcs,hT];rfl) (fun p hp=>?_)
 rcases List.mem_cons.1 hp with rfl|hp
 ·obtain⟨h1,h2⟩:=(h.blk i _ hi).1 g rfl
  obtain⟨cur,⟨e',fr,a1,_,_⟩,a2,a3⟩:=(BlkAt.cells ⟨h1,h2⟩ hne:CellsAt w _ g)
  exact⟨.inl ⟨cur,e',fr,a1,.inl ⟨hnt,by show Agr cs (cur.toList.take cs.length);rw[a3];exact Agr.refl _⟩⟩,fun _=>h2 rfl,hother⟩
 ·obtain⟨a1,a2,a3⟩:=hb.tab (k:=j) (by rw[List.getElem?_set_ne hij];exact hj) hT hp
  exact⟨a1,a2,a3⟩
theorem Weak.mergeG{L:List Blk}{i j:Nat}{T U:Tab}{o o':Bool}(hi:L[i]? =some (gB T o))(hj:L[j]? =some (gB U o'))(hT:gtOK T=true)(hU:gtOK U=true){q:Bool}(hq:q=(o&&o'))
 {L':List Blk}(hL:(L.set i blk0).set j (gB (U++T) q)=L'):Weak L L':=fun B w h=>by
 subst hL;subst hq
 have hb:=h.blank1 i
 have hil:=(List.getElem?_eq_some_iff.1 hi).1
 have hsub:∀c∈L.set i blk0,c.own=true→c∈L:=fun c hc ho=>by
  rcases List.mem_or_eq_of_mem_set hc with h1|rfl
  ·exact h1
  ·cases ho
 have hjb:∃b,(L.set i blk0)[j]? =some b∧b.base=none:=by
  by_cases e:i=j
  ·subst e;exact⟨blk0,List.getElem?_set_self hil,rfl⟩
  ·exact⟨gB U o',by rw[List.getElem?_set_ne e];exact hj,rfl⟩
 obtain⟨b,hb1,hb2⟩:=hjb
 refine hb.setG hb1 hb2 _ _ (by rw[gtOK_append,hU,hT];rfl) (fun p hp=>?_)
 rcases List.mem_append.1 hp with hp|hp
 ·obtain⟨a1,a2,a3⟩:=h.tab hj hU hp
  exact⟨a1,fun ho=>a2 (by simp at ho;exact ho.2),fun c hc ho=>a3 c (hsub c hc ho) ho⟩
 ·obtain⟨a1,a2,a3⟩:=h.tab hi hT hp
  exact⟨a1,fun ho=>a2 (by simp at ho;exact ho.1),fun c hc ho=>a3 c (hsub c hc ho) ho⟩
end Go.Via
namespace Go.Via
open Go Go.RowKit Go.MapKept
theorem bb_self(k:ByteArray):(k==k)=true:=by rw[beq_toListBytes];exact beq_self_eq_true _
theorem bb_ne{k p:ByteArray}(h:¬k=p):(k==p)=false:=by
 rw[beq_toListBytes,beq_eq_false_iff_ne]
 intro e
 rw[ByteArray.toList_eq,ByteArray.toList_eq] at e
 obtain⟨⟨x⟩⟩:=k
 obtain⟨⟨y⟩⟩:=p
 exact h (by rw[show x=y from e])
abbrev SMp:=List (ByteArray×Value)
def kvS(l:SMp):List (Value×Value):=l.map fun p=>(.string p.1,p.2)
noncomputable def mSt(l:SMp):Nat:=mE (kvS l)
def mgS:SMp→ByteArray→Option Value
 |[],_=>none
 |p::l,k=>if p.1=k then some p.2 else mgS l k
def muS:SMp→ByteArray→Value→SMp
 |[],k,v=>[(k,v)]
 |p::l,k,v=>if p.1=k then(k,v)::l else p::muS l k v
def simpleMS(l:SMp):Bool:=l.all fun p=>Value.simple p.2
theorem simpleMS_kv{l:SMp}(h:simpleMS l=true):simpleL (kvS l)=true:=by
 unfold simpleL kvS
 rw[List.all_map]
 refine List.all_eq_true.2 fun p hp=>?_
 have:=List.all_eq_true.1 h p hp
 simp[Value.simple,Value.simple0] at this ⊢
 exact this
theorem simpleMS_mu:∀{l:SMp} {k:ByteArray} {v:Value},simpleMS l=true→Value.simple v=true→simpleMS (muS l k v)=true
 |[],k,v,_,hv=>by simp[muS,simpleMS,hv]
 |p::l,k,v,h,hv=>by
  have h':Value.simple p.2=true∧simpleMS l=true:=by simpa[simpleMS] using h
  unfold muS
  split
  ·have:=h'.2;simp[simpleMS,hv] at this ⊢;exact this
  ·have:=simpleMS_mu (k:=k) (v:=v) h'.2 hv
   simp[simpleMS,h'.1] at this ⊢;exact this
theorem mgS_find(k:ByteArray):∀{es:List MapEntry} {l:SMp} (i:Nat),es.map kvE=kvS l→
 (Instr.findNow .string (.string k) es i=some none∧mgS l k=none∧∀v,muS l k v=l++[(k,v)])∨
 ∃j x e,Instr.findNow .string (.string k) es i=some (some (i+j,x))∧mgS l k=some x∧es[j]? =some e∧e.key= .string k∧
  ∀v,(es.modify j (fun e=>{e with key:= .string k,val:=v})).map kvE=kvS (muS l k v)
 |[],[],i,_=> .inl ⟨rfl,rfl,fun _=>rfl⟩
 |[],_::_,i,h=>by cases h
 |_::_,[],i,h=>by cases h
 |e::es,p::l,i,h=>by
  simp only[kvS,List.map_cons,List.cons.injEq] at h
  obtain⟨h1,h2⟩:=h
  have hk:e.key= .string p.1:=congrArg Prod.fst h1
  have hv:e.val=p.2:=congrArg Prod.snd h1
  by_cases c:p.1=k
  ·refine .inr ⟨0,p.2,e,?_,by simp[mgS,c],rfl,by rw[hk,c],fun v=>?_⟩
   ·simp[Instr.findNow,Instr.sameNow,hk,hv,c,bb_self]
   ·simp only[List.modify_zero_cons,List.map_cons,muS,if_pos c,kvS]
    rw[h2];rfl
  ·have hne:¬k=p.1:=fun e=>c e.symm
   rcases mgS_find k (es:=es) (l:=l) (i+1) h2 with⟨a1,a2,a3⟩|⟨j,x,e',a1,a2,a3,a4,a5⟩
   ·refine .inl ⟨?_,by simp[mgS,c,a2],fun v=>by simp[muS,c,a3]⟩
    have h5:(k==p.1)=false:=bb_ne hne
    simp[Instr.findNow,Instr.sameNow,hk,h5,a1]
   ·refine .inr ⟨j+1,x,e',?_,by simp[mgS,c,a2],by simpa using a3,a4,fun v=>?_⟩
    ·have h5:(k==p.1)=false:=bb_ne hne
     simp[Instr.findNow,Instr.sameNow,hk,h5,a1];omega
    ·simp only[List.modify_succ_cons,List.map_cons,muS,if_neg c]
     rw[a5 v]
     simp only[kvS,List.map_cons]
     rw[show kvE e=(Value.string p.1,p.2) from h1]
theorem LRel.mapS{B:Bs}{w:World}{L:List Blk}(h:LRel B L w){k:Nat}{g:Nat}{l:SMp}{own:Bool}(hs:simpleMS l=true)(hk:L[k]? =some ⟨some g,mSt l,[],0,own⟩):
 ∃es clock,w.heap[g]? =some (.map es clock)∧es.toList.map kvE=kvS l∧Stamped es clock:=by
 rcases((h.blk k _ hk).1 g rfl).1 with⟨cur,⟨_,_,_,_,hlt⟩,_⟩|⟨l',es,clock,a1,_,_,a4,a5,a6,a7⟩
 ·exact absurd hlt (mE_ge _)
 ·have e:kvS l=l':=by
   rcases a1 with a1|⟨_,_,a1,_⟩
   ·exact mE_inj (simpleMS_kv hs) a4 a1
   ·exact absurd a1 mEQ_ne
  subst e
  exact⟨es,clock,a5,a6,a7⟩
theorem LRel.setMapS{B:Bs}{w:World}{L:List Blk}(h:LRel B L w){k g:Nat}{l:SMp}(hk:L[k]? =some ⟨some g,mSt l,[],0,true⟩){l':SMp}{es':Array MapEntry}{clock':Nat}{o:Obj}(ho:w.heap[g]? =some o)(hs':simpleMS l'=true)
 (he:es'.toList.map kvE=kvS l')(hst:Stamped es' clock'):LRel B (L.set k ⟨some g,mSt l',[],0,true⟩) {w with heap:=w.heap.setIfInBounds g (.map es' clock')}:=by
 have h6:=((h.blk k _ hk).1 g rfl).2 rfl
 have hkl:k<L.length:=(List.getElem?_eq_some_iff.1 hk).1
 have hset:=heap_set (o':= .map es' clock') ho
 refine⟨h.bel.one h6 rfl rfl rfl (by simp) (fun i hne=>hset.2 i (by omega)),fun j b' hj=>?_,fun i j g' bi bj hij hi hj hoi hgi hgj=>?_,?_⟩
 rotate_left 2
 ·have base:∀c∈L.set k ⟨some g,mSt l',[],0,true⟩,c∈L∨c=⟨some g,mSt l',[],0,true⟩:=fun c hc=>(List.mem_or_eq_of_mem_set hc)
  refine(h.grp.step (w':={w with heap:=w.heap.setIfInBounds g (.map es' clock')}) fun g' _ hc=>hset.2 g' (fun e=>hc _ (List.mem_of_getElem? hk) rfl (by rw[e]))).sub (fun c hc hn=>?_) (fun c hc hoc g' hgc=>?_)
  ·rcases base c hc with h1|rfl
   ·exact .inr ⟨c,h1,hn,rfl,id⟩
   ·cases hn
  ·rcases base c hc with h1|rfl
   ·exact⟨c,h1,hoc,hgc⟩
   ·exact⟨_,List.mem_of_getElem? hk,rfl,hgc⟩
 ·by_cases e:k=j
  ·subst e
   rw[List.getElem?_set_self hkl] at hj
   cases hj
   refine⟨fun g' hg'=>?_,fun hn'=>by cases hn'⟩
   cases hg'
   exact⟨.inr ⟨kvS l',es',clock',.inl rfl,rfl,rfl,simpleMS_kv hs',hset.1,he,hst⟩,fun _=>h6⟩
  ·rw[List.getElem?_set_ne e] at hj
   obtain⟨h1,h2⟩:=h.blk j b' hj
   refine⟨fun g' hg'=>?_,h2⟩
   have hne:g'≠g:=fun e'=>h.apart k j g _ b' e hk hj rfl rfl (by rw[hg',e'])
   exact(h1 g' hg').heap (hset.2 g' hne)
 ·have base:∀(m:Nat) (bm:Blk),(L.set k ⟨some g,mSt l',[],0,true⟩)[m]? =some bm→∃bm',L[m]? =some bm'∧bm'.base=bm.base∧bm'.own=bm.own:=by
   intro m bm hm
   by_cases e:k=m
   ·subst e
    rw[List.getElem?_set_self hkl] at hm
    cases hm
    exact⟨_,hk,rfl,rfl⟩
   ·rw[List.getElem?_set_ne e] at hm
    exact⟨bm,hm,rfl,rfl⟩
  obtain⟨bi',i1,i2,i3⟩:=base i bi hi
  obtain⟨bj',j1,j2,j3⟩:=base j bj hj
  exact h.apart i j g' bi' bj' hij i1 j1 (by rw[i3];exact hoi) (by rw[i2];exact hgi) (by rw[j2];exact hgj)
section
variable{P:Program}{bl:List Nat}{ops:Array Oper}{K:St→Prop}{rest:List Oper}{nt:Nat}{t:List (Nat×Value)}{L:List Blk}{d:Nat}{ty:TypeId}{pos:String}{af:Array Edge}{gd:Option (Nat×Bool)}{x y z:Operand}
theorem run_mapUpdateS{T Kt Et:Nat}{w:World}{g:Nat}{es:Array MapEntry}{clock:Nat}{l:SMp}{a:ByteArray}{v:Value}(hT:P.underlying T=some (.map Kt Et))(hK:P.underlying Kt=some .string)(hb:w.heap[g]? =some (.map es clock))(he:es.toList.map kvE=kvS l)(hst:Stamped es clock):
 ∃es' clock',(Instr.mapUpdate T (.map (some g)) (.string a) v).run P w= .ok () {w with heap:=w.heap.setIfInBounds g (.map es' clock')}∧es'.toList.map kvE=kvS (muS l a v)∧Stamped es' clock':=by
 have hk:IsKey .string (.string a):=trivial
 rcases mgS_find a 0 he with⟨h1,h2,h3⟩|⟨j,x,e,h1,h2,h3,h4,h5⟩
 ·refine⟨es.push {key:= .string a,val:=v,born:=clock},clock+1,?_,?_,?_⟩
  ·simp[Instr.mapUpdate,run_underlying hT,MapKept.run_getObj_map hb,MapKept.run_checkKey hK hk,MapKept.run_findKey hK h1,MapKept.run_setObj_map _ hb,Result.andThen]
  ·rw[Array.toList_push,List.map_append,he,h3]
   simp[kvS,kvE]
  ·refine stamped_push hst fun x hx=>?_
   intro e
   have hm:∀(es:List MapEntry) (l:SMp),es.map kvE=kvS l→x∈es→mgS l a=none→False:=by
    intro es
    induction es with
    |nil=>intro l _ hx;cases hx
    |cons e0 es ih=>
     intro l hl hx hn
     cases l with
     |nil=>cases hl
     |cons p l=>
      simp only[kvS,List.map_cons,List.cons.injEq] at hl
      unfold mgS at hn
      split at hn
      ·cases hn
      ·rename_i hne
       rcases List.mem_cons.1 hx with rfl|hx
       ·have:=congrArg Prod.fst hl.1
        have h7:x.key= .string p.1:=this
        rw[h7] at e
        simp at e
        exact hne e
       ·exact ih l hl.2 hx hn
   exact hm _ _ he hx h2
 ·have hj:es[j]? =some e:=by rw[←Array.getElem?_toList];exact h3
  refine⟨es.modify j (fun e=>{e with key:= .string a,val:=v}),clock,?_,?_,?_⟩
  ·simp[Instr.mapUpdate,run_underlying hT,MapKept.run_getObj_map hb,MapKept.run_checkKey hK hk,MapKept.run_findKey hK h1,hj,h4,MapKept.run_keyThatStays hk,MapKept.run_setObj_map _ hb,Result.andThen]
  ·rw[Array.toList_modify]
   exact h5 v
  ·exact stamped_modify hst _ _ (fun _ _=>rfl) (fun e' _ he'=>by rw[hj] at he';cases he';exact h4.symm)
theorem r_mapUpdateS{T Kt Et g:Nat}{l:SMp}{a:ByteArray}{v:Value}(kk:Nat)(L':List Blk)(hT:P.underlying T=some (.map Kt Et))(hK:P.underlying Kt=some .string)(hg:wantedS ops ⟨none,.mapUpdate T x y z,ty,pos,af,gd⟩ t=some true)(hk:L[kk]? =some ⟨some g,mSt l,[],0,true⟩)
 (hx:ev t x=some (.map (some g)))(hy:ev t y=some (.string a))(hz:ev t z=some v)(hs:simpleMS l=true)(hv:Value.simple v=true)(hL:L.set kk ⟨some g,mSt (muS l a v),[],0,true⟩=L')(hb:blOk bl kk=true)
 (h:Run P bl ops rest ⟨nt,t,L'⟩ K):Run P bl ops (⟨none,.mapUpdate T x y z,ty,pos,af,gd⟩::rest) ⟨nt,t,L⟩ K:=
 run_s (L':=L') hg rfl rfl (fun B ac w hr=>by
 obtain⟨es,clock,hb,he,hst⟩:=hr.mem.mapS hs hk
 obtain⟨es',clock',h1,h2,h3⟩:=run_mapUpdateS (P:=P) (a:=a) (v:=v) hT hK hb he hst
 refine⟨{w with heap:=w.heap.setIfInBounds g (.map es' clock')},by simp[execOp,hr.ev hx,hr.ev hy,hr.ev hz,h1],?_⟩
 rw[←hL]
 exact hr.mem.setMapS hk hb (simpleMS_mu hs hv) h2 h3) (blOk_spec hb hL) h
theorem r_insertS{T Kt Et g:Nat}{l:SMp}{a:ByteArray}{v:Value}(kk:Nat)(L':List Blk)(hT:P.underlying T=some (.map Kt Et))(hK:P.underlying Kt=some .string)(hg:wantedS ops ⟨none,.insert T x y z,ty,pos,af,gd⟩ t=some true)(hk:L[kk]? =some ⟨some g,mSt l,[],0,true⟩)
 (hx:ev t x=some (.map (some g)))(hy:ev t y=some (.string a))(hz:ev t z=some v)(hs:simpleMS l=true)(hv:Value.simple v=true)(hL:L.set kk ⟨some g,mSt (muS l a v),[],0,true⟩=L')
 (h:Run P bl ops rest ⟨nt,t,L'⟩ K):Run P bl ops (⟨none,.insert T x y z,ty,pos,af,gd⟩::rest) ⟨nt,t,L⟩ K:=
 run_e rfl hg rfl rfl (X:=Unit) (nx:=fun _=>⟨nt,t,L'⟩) (fun _ B ac w hr=>by
 obtain⟨es,clock,hb,he,hst⟩:=hr.mem.mapS hs hk
 obtain⟨es',clock',h1,h2,h3⟩:=run_mapUpdateS (P:=P) (a:=a) (v:=v) hT hK hb he hst
 have hrun:(execOp ac.eval ⟨none,.insert T x y z,ty,pos,af,gd⟩).run P w= .ok .skip {w with heap:=w.heap.setIfInBounds g (.map es' clock')}:=by
  simp[execOp,hr.ev hx,hr.ev hy,hr.ev hz,h1]
 unfold Oper.wp
 rw[hrun]
 refine⟨(),?_⟩
 rw[←hL]
 exact⟨hr.df,hr.size,hr.tmp,hr.mem.setMapS hk hb (simpleMS_mu hs hv) h2 h3⟩) fun _=>h
theorem r_lookupS{T Kt Et g:Nat}{l:SMp}{a:ByteArray}{zv v:Value}{own:Bool}(kk:Nat)(hT:P.underlying T=some (.map Kt Et))(hK:P.underlying Kt=some .string)(hz:(P.info? Et).bind (·.zero)=some zv)(hd:Nat.blt d nt=true)(hg:wantedS ops ⟨some d,.lookup T x y false,ty,pos,af,gd⟩ t=some true)
 (hk:L[kk]? =some ⟨some g,mSt l,[],0,own⟩)(hx:ev t x=some (.map (some g)))(hy:ev t y=some (.string a))(hs:simpleMS l=true)(hv:(mgS l a).getD zv=v)(hbl:blank bl L=L)
 (h:Run P bl ops rest ⟨nt,(d,v)::t,L⟩ K):Run P bl ops (⟨some d,.lookup T x y false,ty,pos,af,gd⟩::rest) ⟨nt,t,L⟩ K:=
 run_q hd hg rfl (fun B a' w hr=>by
 have hr':Rel B ⟨nt,t,L⟩ a' w:=by
  have e:St.bk ⟨nt,t,L⟩ bl=⟨nt,t,L⟩:=by show St.mk _ _ (blank bl L)=_;rw[hbl]
  rwa [e] at hr
 obtain⟨es,clock,hb,he,hst⟩:=hr'.mem.mapS hs hk
 have hkk:IsKey .string (.string a):=trivial
 have hzero:(zeroValue Et).run P w= .ok zv w:=by
  cases hq:P.info? Et with
  |none=>rw[hq] at hz;cases hz
  |some inf=>
   rw[hq] at hz
   simp only[Option.bind_some] at hz
   simp[zeroValue,typeInfo,hq,hz]
 rcases mgS_find a 0 he with⟨h1,h2,h3⟩|⟨j,u,e,h1,h2,h3,h4,h5⟩
 ·rw[h2] at hv
  simp only[Option.getD_none] at hv
  subst hv
  simp[execOp,hr'.ev hx,hr'.ev hy,Instr.lookup,run_underlying hT,MapKept.run_getObj_map hb,MapKept.run_checkKey hK hkk,MapKept.run_findKey hK h1,hzero,Result.andThen]
 ·rw[h2] at hv
  simp only[Option.getD_some] at hv
  subst hv
  simp[execOp,hr'.ev hx,hr'.ev hy,Instr.lookup,run_underlying hT,MapKept.run_getObj_map hb,MapKept.run_checkKey hK hkk,MapKept.run_findKey hK h1,Result.andThen]) h
end
end Go.Via
namespace Go.Via
open Go Go.RowKit
def ownB(L:List Blk)(g:Nat):Prop:=∃b∈L,b.own=true∧b.base=some g
theorem LRel.ownG{B:Bs}{w:World}{L:List Blk}(h:LRel B L w){b:Blk}(hb:b∈L)(ho:b.own=true){g:Nat}(hg:b.base=some g):B.own g:=by
 obtain⟨k,hk⟩:=List.mem_iff_getElem?.1 hb
 exact((h.blk k b hk).1 g hg).2 ho
theorem LRel.ltG{B:Bs}{w:World}{L:List Blk}(h:LRel B L w){b:Blk}(hb:b∈L){g:Nat}(hg:b.base=some g):g<w.heap.size:=by
 obtain⟨k,hk⟩:=List.mem_iff_getElem?.1 hb
 exact h.lt hk hg
theorem LRel.rebase{B:Bs}{w:World}{L:List Blk}(h:LRel B L w)(hO:(L.all fun b=>Nat.blt b.e mapMark||(!b.own||b.base.isSome))=true):LRel ⟨w,ownB L,[]⟩ L w:=by
 refine⟨⟨rfl,rfl,rfl,Nat.le_refl _,fun _ _ _=>rfl⟩,fun k b hk=>?_,h.apart,fun b hb hn T hT he p hp=>?_⟩
 ·obtain⟨h1,h2⟩:=h.blk k b hk
  exact⟨fun g hg=>⟨(h1 g hg).1,fun ho=> .inr ⟨b,List.mem_of_getElem? hk,ho,hg⟩⟩,h2⟩
 ·obtain⟨a1,_,a3⟩:=h.grp b hb hn T hT he p hp
  refine⟨a1,fun ho=>?_,a3⟩
  have:=List.all_eq_true.1 hO b hb
  rw[ho,hn] at this
  have h2:Nat.blt b.e mapMark=true:=by simpa using this
  have h3:b.e<mapMark:=by simpa using h2
  exact absurd (he▸h3) (gE_ge T)
theorem LRel.joinG{B:Bs}{w w':World}{A R new:List Blk}(h:LRel B (A++R) w)(h':LRel ⟨w,ownB A,[]⟩ new w')(hA:∀b∈A,b.own=true)(hn:∀b∈new,b.own=true∨∃a∈A,a.base=b.base∧b.base.isSome=true):LRel B (new++R) w':=by
 have hS:∀g,ownB A g→B.own g:=fun g ⟨b,hb,ho,hg⟩=>h.ownG (List.mem_append_left _ hb) ho hg
 have hle:Bs.le B ⟨w,ownB A,[]⟩:=fun g hg=>by
  rcases hg with hg|hg
  ·exact .inl (Nat.le_trans h.bel.size hg)
  ·exact hS g hg
 have keep:∀g,g<w.heap.size→¬ownB A g→w'.heap[g]? =w.heap[g]? :=fun g hg hS'=>h'.bel.block g hg hS'
 have apR:∀c∈R,∀g,c.base=some g→¬ownB A g:=fun c hc g hg ⟨b,hb,ho,hbg⟩=>by
  obtain⟨i,hi⟩:=List.mem_iff_getElem?.1 hb
  obtain⟨j,hj⟩:=List.mem_iff_getElem?.1 hc
  have hil:=(List.getElem?_eq_some_iff.1 hi).1
  exact h.apart i (A.length+j) g b c (by omega) (by rw[List.getElem?_append_left hil];exact hi) (by rw[List.getElem?_append_right (by omega),Nat.add_sub_cancel_left];exact hj) ho hbg hg
 have ownN:∀b∈new,∀g,b.base=some g→w.heap.size≤g∨ownB A g:=fun b hb g hg=>by
  obtain⟨k,hk⟩:=List.mem_iff_getElem?.1 hb
  rcases hn b hb with h1|⟨a,ha,h1,_⟩
  ·exact((h'.blk k b hk).1 g hg).2 h1
  ·exact .inr ⟨a,ha,hA a ha,h1.trans hg⟩
 have farN:∀b∈new,∀g,b.base=some g→∀c∈R,c.base≠some g:=fun b hb g hg c hc hcg=>by
  rcases ownN b hb g hg with h1|h1
  ·have:=h.ltG (List.mem_append_right _ hc) hcg
   omega
  ·exact apR c hc g hcg h1
 refine⟨⟨h'.bel.os.trans h.bel.os,h'.bel.tape.trans h.bel.tape,h'.bel.output.trans h.bel.output,Nat.le_trans h.bel.size h'.bel.size,fun k hk hk'=>?_⟩,fun k b hk=>?_,fun i j g bi bj hij hi hj ho hg hgj=>?_,fun b hb hb0 T hT he p hp=>?_⟩
 ·have h1:¬ownB A k:=fun hq=>by
   rcases hS k hq with h2|h2
   ·omega
   ·exact hk' h2
  exact(keep k (Nat.lt_of_lt_of_le hk h.bel.size) h1).trans (h.bel.block k hk hk')
 ·rw[List.getElem?_append] at hk
  split at hk
  ·obtain⟨a1,a2⟩:=h'.blk k b hk
   exact⟨fun g hg=>⟨(a1 g hg).1,fun ho=>hle _ ((a1 g hg).2 ho)⟩,a2⟩
  ·have hbR:=List.mem_of_getElem? hk
   obtain⟨j,hj⟩:=List.mem_iff_getElem?.1 hbR
   obtain⟨a1,a2⟩:=h.blk (A.length+j) b (by rw[List.getElem?_append_right (by omega),Nat.add_sub_cancel_left];exact hj)
   exact⟨fun g hg=>(a1 g hg).heap (keep g (a1 g hg).lt (apR b hbR g hg)),a2⟩
 ·rw[List.getElem?_append] at hi hj
  split at hi<;>split at hj
  ·exact h'.apart i j g bi bj hij hi hj ho hg hgj
  ·exact farN bi (List.mem_of_getElem? hi) g hg bj (List.mem_of_getElem? hj) hgj
  ·exact farN bj (List.mem_of_getElem? hj) g hgj bi (List.mem_of_getElem? hi) hg
  ·exact h.apart (A.length+(i-new.length)) (A.length+(j-new.length)) g bi bj (by omega) (by rw[List.getElem?_append_right (by omega),Nat.add_sub_cancel_left];exact hi) (by rw[List.getElem?_append_right (by omega),Nat.add_sub_cancel_left];exact hj) ho hg hgj
 ·rcases List.mem_append.1 hb with hb|hb
  ·obtain⟨a1,a2,a3⟩:=h'.grp b hb hb0 T hT he p hp
   refine⟨a1,fun ho=>hle _ (a2 ho),fun c hc ho hg=>?_⟩
   rcases List.mem_append.1 hc with hc|hc
   ·exact a3 c hc ho hg
   ·rcases a2 ((hn b hb).resolve_right fun⟨_,_,_,h1⟩=>by rw[hb0] at h1;cases h1) with h1|h1
    ·have h1:w.heap.size≤p.1:=h1
     have:=h.ltG (List.mem_append_right _ hc) hg
     omega
    ·exact apR c hc _ hg h1
  ·obtain⟨a1,a2,a3⟩:=h.grp b (List.mem_append_right _ hb) hb0 T hT he p hp
   have hnS:¬ownB A p.1:=fun⟨c,hc,ho,hg⟩=>a3 c (List.mem_append_left _ hc) ho hg
   refine⟨a1.heap (keep p.1 a1.lt hnS),a2,fun c hc ho hg=>?_⟩
   rcases List.mem_append.1 hc with hc|hc
   ·rcases ownN c hc _ hg with h1|h1
    ·have:=a1.lt
     omega
    ·exact hnS h1
   ·exact a3 c (List.mem_append_right _ hc) ho hg
def setK:List Blk→List Nat→List Blk→List Blk
 |L,k::ks,b::bs=>setK (L.set k b) ks bs
 |L,_,_=>L
def fillK:List (Option Blk)→List Nat→List Blk→List (Option Blk)
 |M,k::ks,b::bs=>fillK (M.set k (some b)) ks bs
 |M,_,_=>M
def holeK:List (Option Blk)→List Nat→List (Option Blk)
 |M,[]=>M
 |M,k::ks=>holeK (M.set k none) ks
def restK(L:List Blk)(ks:List Nat):List Blk:=(holeK (L.map some) ks).filterMap id
theorem setK_map:∀(ks:List Nat) (L bs:List Blk),(setK L ks bs).map some=fillK (L.map some) ks bs
 |[],L,bs=>by simp[setK,fillK]
 |k::ks,L,[]=>by simp[setK,fillK]
 |k::ks,L,b::bs=>by rw[setK,fillK,setK_map ks,List.map_set]
theorem fillK_hole:∀(ks:List Nat) (M:List (Option Blk)) (bs:List Blk),ks.Nodup→bs.length=ks.length→fillK (holeK M ks) ks bs=fillK M ks bs
 |[],M,bs,_,_=>rfl
 |k::ks,M,[],_,h=>by simp at h
 |k::ks,M,b::bs,hn,h=>by
  have hn':=List.nodup_cons.1 hn
  rw[holeK,fillK,fillK]
  have e:(holeK (M.set k none) ks).set k (some b)=holeK (M.set k (some b)) ks:=by
   have key:∀(ks:List Nat) (M:List (Option Blk)) (o:Option Blk),k∉ks→(holeK M ks).set k o=holeK (M.set k o) ks:=by
    intro ks
    induction ks with
    |nil=>intro M o _;rfl
    |cons j ks ih=>
     intro M o hk
     simp only[List.mem_cons,not_or] at hk
     rw[holeK,holeK,ih _ _ hk.2,List.set_comm _ _ (fun e=>hk.1 e.symm)]
   rw[key ks _ _ hn'.1,List.set_set]
  rw[e]
  exact fillK_hole ks _ bs hn'.2 (by simpa using h)
theorem fill_perm1:∀(M:List (Option Blk)) (k:Nat) (b:Blk),M[k]? =some none→((M.set k (some b)).filterMap id).Perm (b::M.filterMap id)
 |[],k,b,h=>by simp at h
 |o::M,0,b,h=>by
  simp at h
  subst h
  simp
 |o::M,k+1,b,h=>by
  rw[List.getElem?_cons_succ] at h
  have ih:=fill_perm1 M k b h
  cases o with
  |none=>simpa using ih
  |some c=>
   simp only[List.set_cons_succ,List.filterMap_cons,id]
   exact(ih.cons c).trans (List.Perm.swap _ _ _)
theorem fill_perm:∀(ks:List Nat) (M:List (Option Blk)) (bs:List Blk),ks.Nodup→(∀k∈ks,M[k]? =some none)→bs.length=ks.length→((fillK M ks bs).filterMap id).Perm (bs++M.filterMap id)
 |[],M,[],_,_,_=>List.Perm.refl _
 |[],M,_::_,_,_,h=>by simp at h
 |k::ks,M,[],_,_,h=>by simp at h
 |k::ks,M,b::bs,hn,hM,h=>by
  have hn':=List.nodup_cons.1 hn
  have h1:=fill_perm ks (M.set k (some b)) bs hn'.2 (fun j hj=>by
 have hne:k≠j:=fun e=>hn'.1 (e▸hj)
 rw[List.getElem?_set_ne hne]
 exact hM j (by simp[hj])) (by simpa using h)
  rw[fillK]
  refine h1.trans ?_
  refine((fill_perm1 M k b (hM k (by simp))).append_left bs).trans ?_
  exact List.perm_middle
theorem hole_at:∀(ks:List Nat) (M:List (Option Blk)),(∀k∈ks,k<M.length)→∀k∈ks,(holeK M ks)[k]? =some none:=by
 intro ks
 induction ks with
 |nil=>intro M _ k hk;cases hk
 |cons j ks ih=>
  intro M hl k hk
  rw[holeK]
  by_cases hm:k∈ks
  ·exact ih _ (fun i hi=>by rw[List.length_set];exact hl i (by simp[hi])) k hm
  ·have hkj:k=j:=by rcases List.mem_cons.1 hk with h|h;exact h;exact absurd h hm
   subst hkj
   have key:∀(ks:List Nat) (M:List (Option Blk)),k∉ks→(holeK M ks)[k]? =M[k]? :=by
    intro ks
    induction ks with
    |nil=>intro M _;rfl
    |cons i ks ih2=>
     intro M hk
     simp only[List.mem_cons,not_or] at hk
     rw[holeK,ih2 _ hk.2,List.getElem?_set_ne (fun e=>hk.1 e.symm)]
   rw[key ks _ hm,List.getElem?_set_self (hl k (by simp))]
theorem some_filter:∀(L:List Blk),(L.map some).filterMap id=L
 |[]=>rfl
 |a::L=>by simp
theorem setK_perm{L:List Blk}{ks:List Nat}{bs:List Blk}(hn:ks.Nodup)(hl:∀k∈ks,k<L.length)(h:bs.length=ks.length):(setK L ks bs).Perm (bs++restK L ks):=by
 have h1:=fill_perm ks (holeK (L.map some) ks) bs hn (hole_at ks _ (fun k hk=>by rw[List.length_map];exact hl k hk)) h
 rw[fillK_hole ks _ bs hn h,←setK_map,some_filter] at h1
 exact h1
theorem setK_self:∀{ks:List Nat} {L L0:List Blk},ks.map (fun k=>L[k]?)=L0.map some→setK L ks L0=L
 |[],L,L0,h=>by cases L0<;>simp[setK]
 |k::ks,L,[],h=>by simp at h
 |k::ks,L,b::L0,h=>by
  simp only[List.map_cons,List.cons.injEq] at h
  have e:L.set k b=L:=by
   obtain⟨hl,h2⟩:=List.getElem?_eq_some_iff.1 h.1
   rw[←h2];exact List.set_getElem_self hl
  rw[setK,e]
  exact setK_self h.2
def setG:List Blk→List Nat→List Blk→List Blk
 |L,k::ks,b::bs=>setG (L.set k b) ks bs
 |L,[],new=>L++new
 |L,_::_,[]=>L
theorem setG_eq:∀(ks:List Nat) (L bs:List Blk),ks.length≤bs.length→setG L ks bs=setK L ks (bs.take ks.length)++bs.drop ks.length
 |[],L,bs,_=>by simp[setG,setK]
 |k::ks,L,[],h=>by simp at h
 |k::ks,L,b::bs,h=>by
  rw[setG,setG_eq ks _ _ (by simpa using h)]
  simp[setK]
theorem setG_perm{L:List Blk}{ks:List Nat}{bs:List Blk}(hn:ks.Nodup)(hl:∀k∈ks,k<L.length)(h:ks.length≤bs.length):(setG L ks bs).Perm (bs++restK L ks):=by
 rw[setG_eq _ _ _ h]
 have h1:=setK_perm (L:=L) (bs:=bs.take ks.length) hn hl (by rw[List.length_take];omega)
 refine(h1.append_right _).trans ?_
 rw[List.append_assoc]
 refine(List.perm_append_comm.append_left _).trans ?_
 rw[←List.append_assoc,List.take_append_drop]
theorem allOwn{A L:List Blk}(h:(L.all fun b=>b.own)=true):∀b∈L,b.own=true∨∃a∈A,a.base=b.base∧b.base.isSome=true:=fun b hb=> .inl (List.all_eq_true.1 h b hb)
theorem lrel_frame{L A C:List Blk}(ks is:List Nat)(hn:ks.Nodup)(hk:ks.map (fun k=>L[k]?)=A.map some)
 (hA:(A.all fun b=>b.own&&(Nat.blt b.e mapMark||b.base.isSome))=true)(hp:Picks L (is.map some) C)(hC:(C.all fun b=> !b.own)=true)(hap:apartB ((ks++is).map some) ((A++C).map (·.own))=true)
 {B:Bs}{w:World}(h:LRel B L w):∃B':Bs,B'.D=[]∧LRel B' (A++C) w∧∀(new:List Blk) (w':World),Nat.ble ks.length new.length=true→(∀b∈new,b.own=true∨∃a∈A,a.base=b.base∧b.base.isSome=true)→LRel B' new w'→LRel B (setG L ks new) w':=by
 have hl:∀k∈ks,k<L.length:=fun k hk'=>by
  obtain⟨i,hi⟩:=List.mem_iff_getElem?.1 hk'
  have h1:(ks.map fun k=>L[k]?)[i]? =some L[k]? :=by rw[List.getElem?_map,hi];rfl
  rw[hk,List.getElem?_map] at h1
  obtain⟨b,_,hb⟩:=Option.map_eq_some_iff.1 h1
  exact(List.getElem?_eq_some_iff.1 hb.symm).1
 have hlen0:A.length=ks.length:=by have:=congrArg List.length hk;simpa using this.symm
 have pA:∀(ks:List Nat) (A:List Blk),ks.map (fun k=>L[k]?)=A.map some→Picks L (ks.map some) A:=by
  intro ks
  induction ks with
  |nil=>intro A h;cases A with
   |nil=>exact trivial
   |cons=>simp at h
  |cons k ks ih=>intro A h;cases A with
   |nil=>simp at h
   |cons a A=>
    simp only[List.map_cons,List.cons.injEq] at h
    exact⟨⟨a,h.1,a.le_refl⟩,ih A h.2⟩
 have pAC:∀(ks:List Nat) (A:List Blk),Picks L (ks.map some) A→Picks L ((ks++is).map some) (A++C):=by
  intro ks
  induction ks with
  |nil=>intro A h;cases A with
   |nil=>simpa using hp
   |cons=>exact h.elim
  |cons k ks ih=>intro A h;cases A with
   |nil=>exact h.elim
   |cons a A=>exact⟨h.1,ih A h.2⟩
 have plen:∀{is:List Nat} {C:List Blk},Picks L (is.map some) C→is.length=C.length:=by
  intro is
  induction is with
  |nil=>intro C hp;cases C with
   |nil=>rfl
   |cons c C=>exact hp.elim
  |cons k is ih=>intro C hp;cases C with
   |nil=>exact hp.elim
   |cons c C=>simp[ih hp.2]
 have h1:=h.picks ((ks++is).map some) (pAC ks A (pA ks A hk)) (by simp[hlen0,plen hp]) hap
 have hO:((A++C).all fun b=>Nat.blt b.e mapMark||(!b.own||b.base.isSome))=true:=by
  rw[List.all_append,Bool.and_eq_true]
  constructor
  ·refine List.all_eq_true.2 fun b hb=>?_
   have:=List.all_eq_true.1 hA b hb
   simp only[Bool.and_eq_true,Bool.or_eq_true] at this
   simp only[Bool.or_eq_true]
   exact this.2.imp id .inr
  ·refine List.all_eq_true.2 fun b hb=>?_
   have:=List.all_eq_true.1 hC b hb
   simp at this
   simp[this]
 have h2:=h1.rebase hO
 have hSA:ownB (A++C)=ownB A:=by
  funext g
  refine propext ⟨fun⟨b,hb,ho,hg⟩=>?_,fun⟨b,hb,ho,hg⟩=>⟨b,List.mem_append_left _ hb,ho,hg⟩⟩
  rcases List.mem_append.1 hb with hb|hb
  ·exact⟨b,hb,ho,hg⟩
  ·have:=List.all_eq_true.1 hC b hb
   rw[ho] at this;cases this
 rw[hSA] at h2
 have hp0:=setK_perm (L:=L) hn hl hlen0
 rw[setK_self hk] at hp0
 have hL:=h.perm hp0
 refine⟨⟨w,ownB A,[]⟩,rfl,h2,fun new w' hlen hown hx=>?_⟩
 have h3:=hL.joinG hx (fun b hb=>by have:=List.all_eq_true.1 hA b hb;simp at this;exact this.1) hown
 exact h3.perm (setG_perm hn hl (Nat.le_of_ble_eq_true hlen)).symm
theorem ECall.at{P:Program}{f:Nat}{L A C:List Blk}{args:List Value}{X:Type}{res:X→Value}{L1:X→List Blk}(hc:ECall P f (A++C) args X res L1)(ks is:List Nat)(hn:ks.Nodup)(hk:ks.map (fun k=>L[k]?)=A.map some)
 (hA:(A.all fun b=>b.own&&(Nat.blt b.e mapMark||b.base.isSome))=true)(hp:Picks L (is.map some) C)(hC:(C.all fun b=> !b.own)=true)(hap:apartB ((ks++is).map some) ((A++C).map (·.own))=true)(hlen:∀x,Nat.ble ks.length (L1 x).length=true)(hown:∀x,∀b∈L1 x,b.own=true∨∃a∈A,a.base=b.base∧b.base.isSome=true)
 {B:Bs}{w:World}(h:LRel B L w):Calls P f args.toArray w fun e w'=>∃x,e= .returned (res x)∧LRel B (setG L ks (L1 x)) w':=by
 obtain⟨B',hD,h2,hb⟩:=lrel_frame ks is hn hk hA hp hC hap h
 refine(hc.2 B' w hD h2).mono ?_
 rintro e w' ⟨x,rfl,hx⟩
 exact⟨x,rfl,hb _ _ (hlen x) (hown x) hx⟩
section
variable{P:Program}{bl:List Nat}{ops:Array Oper}{K:St→Prop}{rest:List Oper}{nt:Nat}{t:List (Nat×Value)}{L:List Blk}{d:Nat}{ty:TypeId}{pos:String}{af:Array Edge}{g:Option (Nat×Bool)}{x y:Operand}
theorem r_gcallM{f:Nat}{args:List Operand}{ts:Array TypeId}{dst:Option Nat}(vs:List Value){A C:List Blk}{X:Type}{res:X→Value}{L1:X→List Blk}(ks is:List Nat)(mk:X→List Blk)(hM:isM bl=true)(hd:(match dst with|some d=>Nat.blt d nt|none=>true)=true)
 (hg:wantedS ops ⟨dst,.call {callee:= .value (.func f),args:=args.toArray,argTypes:=ts},ty,pos,af,g⟩ t=some true)
 (hv:args.map (ev t)=vs.map some)(hc:ECall P f (A++C) vs X res L1)(hn:ks.Nodup)(hk:ks.map (fun k=>L[k]?)=A.map some)(hA:(A.all fun b=>b.own&&(Nat.blt b.e mapMark||b.base.isSome))=true)(hp:Picks L (is.map some) C)(hC:(C.all fun b=> !b.own)=true)(hap:apartB ((ks++is).map some) ((A++C).map (·.own))=true)
 (hlen:∀x,Nat.ble ks.length (L1 x).length=true)(hown:∀x,∀b∈L1 x,b.own=true∨∃a∈A,a.base=b.base∧b.base.isSome=true)(hL:∀x,setG L ks (L1 x)=mk x)
 (h:∀x,Run P bl ops rest (({nt:=nt,t:=t,L:=mk x}:St).put dst (res x)) K):
 Run P bl ops (⟨dst,.call {callee:= .value (.func f),args:=args.toArray,argTypes:=ts},ty,pos,af,g⟩::rest) ⟨nt,t,L⟩ K:=
 run_m hd hg hM (X:=X) (nx:=fun x=>({nt:=nt,t:=t,L:=mk x}:St).put dst (res x)) (fun hd' B a w hr=>by
 unfold Oper.wp
 rw[run_callee hc.1 a rfl rfl (vs:=vs.toArray) (by simp[evs_spec hr hv]) w]
 refine(hc.at ks is hn hk hA hp hC hap hlen hown hr.mem).mono ?_
 rintro e w' ⟨x,rfl,hw⟩
 refine⟨x,?_⟩
 rw[hL] at hw
 exact hr.put hd' hw) h
end
end Go.Via
