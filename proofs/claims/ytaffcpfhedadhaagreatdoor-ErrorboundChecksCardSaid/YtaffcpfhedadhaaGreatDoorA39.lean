/-
  Part 39 (chapter 32): lemmas, walks. Each theorem states its own conditions.
-/
import Derived.Shelf.SlSortCmp.WholeK
import Derived.Shelf.SlSortCmp.NoneTotal
import Derived.Lib.Repeat
import Derived.Sort.Grow
import Derived.Sort.EncStr
import Derived.ChangeSame
import Derived.OpenShut
import Derived.RowKit3
import Derived.ProofKit
import Derived.Deep.Slices
import Derived.Carry
import Derived.ChangeMaps5
import Derived.Test.YtaffcpfhedadhaaGreatDoorCards
import Derived.Test.YtaffcpfhedadhaaGreatDoorTie
import Derived.Deep.DeepHandedRow
import Derived.Lib.LaidTab
import Derived.Lib.SliceRun
import Derived.Test.YtaffcpfhedadhaaGreatDoorA35
set_option linter.all false
set_option maxRecDepth 20000
set_option maxHeartbeats 20000000
namespace Go.Proofs.YtaffcpfhedadhaaGreatDoor
open Go.ChangeShapes Go.WideShapes Go.ChangeAt Go.RowKit
def own:ownKnob Tryz.prog.godebug=none:=by kernel_rfl
noncomputable def JP(os:Os):World:=
 let w0:=World.holding Tryz.prog os ⟨#[],#[],[]⟩
 {w0 with heap:=(w0.heap.modify 2 fun
 | .cells _ t frozen=> .cells (List.map (Value.int .u8) ([128,191,160,191,128,159,144,191,128,143]++List.replicate 22 0)).toArray t frozen
 |o=>o).modify 1 fun
 | .cells _ t frozen=> .cells (List.map (fun(z:Nat)=>Value.int .u8 z) Go.Pinned.utf8FirstZ).toArray t frozen
 |o=>o}
set_option maxRecDepth 100000 in
def qmq(os:Os)(args:Array Value):laidMet Tryz.prog [("unicode/utf8.acceptRanges",Rows.laid_unicode_utf8_acceptRanges),("unicode/utf8.first",Rows.laid_unicode_utf8_first)] ((JP os).forCall (fun _ _=>0) ⟨#[],args,[]⟩).memory:=
 laidMet_of_run' 8 ak ak
end Go.Proofs.YtaffcpfhedadhaaGreatDoor
namespace Go.Proofs.YtaffcpfhedadhaaGreatDoor
open Go Go.RowKit Go.Via Go.ChangeShapes Go.WideShapes
section
variable{H:Type}{enc:TypeId×Value->H}{w:World}
theorem qyS:Tryz.prog.cellsOf 57=6:=ak
def qyT{fuel:Nat}{cs:List Value}{x:DataW H×List MemPlace}(h:Rd w enc fuel 55 cs x):∃(n e:Int) (up dn:Nat),((-9223372036854775808<=n∧n<=9223372036854775807)∧(-9223372036854775808<=e∧e<=9223372036854775807)∧up<256∧dn<256)∧cs=[.int .i64 n,.int .i64 e,.int .u8 (up:Nat),.int .u8 (dn:Nat)]:=by
 obtain⟨xs,n,_,rfl,hl,hlen,hf⟩:=DataW.trod_struct Tryz.underlying55 h
 rw[qwA] at hl
 match cs,hl,xs,hlen with
 |[c0,c1,c2,c3],_,[y0,y1,y2,y3],_=>
  have f0:Rd w enc n 3 ((([c0,c1,c2,c3]:List Value).drop 0).take (Tryz.prog.cellsOf 3)) y0:=hf 0 _ rfl
  have f1:Rd w enc n 3 ((([c0,c1,c2,c3]:List Value).drop 1).take (Tryz.prog.cellsOf 3)) y1:=hf 1 _ rfl
  have f2:Rd w enc n 5 ((([c0,c1,c2,c3]:List Value).drop 2).take (Tryz.prog.cellsOf 5)) y2:=hf 2 _ rfl
  have f3:Rd w enc n 5 ((([c0,c1,c2,c3]:List Value).drop 3).take (Tryz.prog.cellsOf 5)) y3:=hf 3 _ rfl
  rw[ce3] at f0 f1;rw[ce5] at f2 f3
  obtain⟨a,ha,rfl⟩:=qwC f0
  obtain⟨b,hb,rfl⟩:=qwC f1
  obtain⟨c,hc,rfl⟩:=oU8 f2
  obtain⟨d,hd,rfl⟩:=oU8 f3
  exact⟨a,b,c,d,⟨ha,hb,hc,hd⟩,rfl⟩
def qpP{r:Reach}{b0:Nat}{v:Value}{d:DataW H}{ps:List MemPlace}(hval:Value.okWide Tryz.prog w r b0 57 v)(hd:DataW.Trod enc Tryz.prog w 0 (fun _=>true) true 57 v d ps):
 ∃(kd pc:Nat) (n e:Int) (up dn:Nat),(kd<256∧pc<256∧(-9223372036854775808<=n∧n<=9223372036854775807)∧(-9223372036854775808<=e∧e<=9223372036854775807)∧up<256∧dn<256)∧v= .agg #[.int .u8 (kd:Nat),.int .u8 (pc:Nat),.int .i64 n,.int .i64 e,.int .u8 (up:Nat),.int .u8 (dn:Nat)]:=by
 obtain⟨cs,rfl,hcs⟩:=okWide_struct Tryz.underlying57 hval
 obtain⟨fuel,hf⟩:=hd
 obtain⟨xs,n,hn,hx,hl,hlen,hf⟩:=DataW.trod_struct Tryz.underlying57 hf
 rw[qyS] at hl
 obtain⟨cl⟩:=cs
 match cl,hl,xs,hlen with
 |[c0,c1,c2,c3,c4,c5],_,[y0,y1,y2],_=>
  have f0:Rd w enc n 5 ((([c0,c1,c2,c3,c4,c5]:List Value).drop 0).take (Tryz.prog.cellsOf 5)) y0:=hf 0 _ rfl
  have f1:Rd w enc n 5 ((([c0,c1,c2,c3,c4,c5]:List Value).drop 1).take (Tryz.prog.cellsOf 5)) y1:=hf 1 _ rfl
  have f2:Rd w enc n 55 ((([c0,c1,c2,c3,c4,c5]:List Value).drop 2).take (Tryz.prog.cellsOf 55)) y2:=hf 2 _ rfl
  rw[ce5] at f0 f1;rw[qwA] at f2
  obtain⟨a,ha,rfl⟩:=oU8 f0
  obtain⟨b,hb,rfl⟩:=oU8 f1
  obtain⟨n,e,up,dn,h,e1⟩:=qyT f2
  simp only[List.drop_succ_cons,List.drop_zero,List.take_succ_cons,List.take_zero,List.cons.injEq,and_true] at e1
  obtain⟨rfl,rfl,rfl,rfl⟩:=e1
  exact⟨a,b,n,e,up,dn,⟨ha,hb,h⟩,rfl⟩
end
end Go.Proofs.YtaffcpfhedadhaaGreatDoor
namespace Go.Via
open Go
section
variable{A B:List PU}{m d:Rl}{p:iT}{c:List iT}
def Fl.good(F:Fl A B)(hm:m.ok)(h:(Gi A B).length≠0):qQ A B (qto A B m (Gi A B)) (qZ (Gi A B))=0:=by
 obtain⟨M,e,g,b⟩:=Xz hm F.H.sa F.H.sb F.H.ea F.H.eb (Fl.ne h);rw[<-F.most h,e,qoW hm F.H.sa F.H.sb F.H.ea F.H.eb];exact g
end
end Go.Via
namespace Go.Proofs.YtaffcpfhedadhaaGreatDoor
open Go Go.RowKit Go.Via
end Go.Proofs.YtaffcpfhedadhaaGreatDoor
