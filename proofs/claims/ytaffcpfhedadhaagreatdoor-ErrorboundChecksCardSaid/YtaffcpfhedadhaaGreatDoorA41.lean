/-
  Part 41 (chapter 32): lemmas, walks. Each theorem states its own conditions.
-/
import Derived.Shelf.SlSortCmp.WholeK
import Derived.Shelf.SlSortCmp.NoneTotal
import Derived.Lib.Repeat
import Derived.Sort.Grow
import Derived.Sort.EncStr
import Derived.ChangeSame
import Derived.OpenShut
import Derived.RowKit3
import Derived.ProofKit
import Derived.Deep.Slices
import Derived.Carry
import Derived.ChangeMaps5
import Derived.Test.YtaffcpfhedadhaaGreatDoorCards
import Derived.Test.YtaffcpfhedadhaaGreatDoorTie
import Derived.Deep.DeepHandedRow
import Derived.Lib.LaidTab
import Derived.Lib.SliceRun
import Derived.Test.YtaffcpfhedadhaaGreatDoorA39
import Derived.Test.YtaffcpfhedadhaaGreatDoorA40
set_option linter.all false
set_option maxRecDepth 20000
set_option maxHeartbeats 20000000
namespace Go.Proofs.YtaffcpfhedadhaaGreatDoor.errorboundChecks
open Go Go.ChangeShapes Go.WideShapes Go.ChangeAt Go.RowKit Go.Via
def laid:laidOutB Tryz.prog=true:=by kernel_rfl
def qmu(H:Type)(enc:TypeId×Value->H)(W:World)(base:Nat)(args:Array Value)(ds gs:List (DataW H))(before:List MemPlace)
 (hval:∀(j:Nat) t v,Tryz.f5.params[j]? =some t->args[j]? =some v->Value.okWide Tryz.prog W .any base t v)
 (hW:DataW.Whole enc Tryz.prog Tryz.f5.params.toList Rows.errorboundChecksSpec.vars false W args.toList ds gs before):
 Calls Tryz.prog 5 args W fun e W'=>∃v,e= .returned v∧Rows.errorboundChecksSpec.post enc Tryz.prog Tryz.f5 false true false false W args v W':=by
 have hW':=hW;obtain⟨p,q,hA0,hV,rfl,hfz,hnd⟩:=hW;have hA:DataW.TrodAll enc Tryz.prog W 0 (fun _=>true) true Tryz.f5.params.toList args.toList ds p:=hA0;rw[Tryz.params5] at hA hval;obtain⟨v0,vs0,d0,ds0,p0,q0,hargs,rfl,rfl,h0,r0⟩:=trodAll_cons hA;obtain⟨v1,vs1,d1,ds1,p1,q1,rfl,rfl,rfl,h1,r1⟩:=trodAll_cons r0;obtain⟨rfl,rfl,rfl⟩:=trodAll_nil r1;obtain rfl:args= #[v0,v1]:=(by cases args;simp_all);obtain⟨rfl,rfl⟩:=trodVars_none hV;have h0k:=h0;have h1k:=h1;obtain⟨ta,xa,ya,tb,xb,yb,ch,a,b,ab,pa,aN,ac,bb,pb,bN,bc,⟨z1,z2,z3,z4,z5,z6,z7⟩,rfl,sa,sb⟩:=qpL (hval 0 26 v0 rfl rfl) h0;obtain⟨kd,pc,n,e,up,dn,⟨k1,k2,⟨n1,n2⟩,⟨e1,e2⟩,n3,n4⟩,rfl⟩:=qpP (hval 1 57 v1 rfl rfl) h1
 clear hA0
 simp only[List.append_nil] at hW';have walk:=(Gf ta xa ya tb xb yb ch z1 z2 z3 z4 z5 z6 z7 a ab pa aN ac sa.le sa.ok b bb pb bN bc sb.le sb.ok kd pc k1 k2 n e up dn n1 n2 e1 e2 n3 n4).2 W (qwy ⟨⟨rfl,sa.blk⟩,⟨rfl,sb.blk⟩,trivial⟩);refine walk.mono fun e W' ⟨_,he,hg⟩=>?_
 subst he;have hlt:∀x∈p0++(p1++[]),x.block<W.heap.size:=fun x hx=>hW'.lt x (by simpa using hx)
 have k0:DataW.Trod enc Tryz.prog W' 0 (fun b=>decide (b<W.heap.size)) true 26 (.agg #[.int .u8 (ta:Nat),.int .u8 (xa:Nat),.int .u8 (ya:Nat),aB ab pa.length a.length ac,.int .u8 (tb:Nat),.int .u8 (xb:Nat),.int .u8 (yb:Nat),aB bb pb.length b.length bc,.int .u8 (ch:Nat)]) d0 p0:=Below.trod laid (by kernel_rfl) (of_decide_eq_true (by kernel_rfl)) h0k hg.below.below (fun x hx=>hlt x (by simp[hx]));have k1:DataW.Trod enc Tryz.prog W' 0 (fun b=>decide (b<W.heap.size)) true 57 (.agg #[.int .u8 (kd:Nat),.int .u8 (pc:Nat),.int .i64 n,.int .i64 e,.int .u8 (up:Nat),.int .u8 (dn:Nat)]) d1 p1:=Below.trod laid (by kernel_rfl) (of_decide_eq_true (by kernel_rfl)) h1k hg.below.below (fun x hx=>hlt x (by simp[hx]));exact⟨_,rfl,[d0,d1],[],p0++(p1++[]),[],p0++(p1++[]),[],by simpa using hW',trodAll_cons_mk (shut_bool Tryz.underlying4 _) trodAll_mk0,trodAll_cons_mk k0 (trodAll_cons_mk k1 (trodAll_mk0)),rfl,qaT hg.below.below _,fun h=>by cases h⟩
abbrev wit:Array Value:= #[.agg #[.int .u8 0,.int .u8 0,.int .u8 0,.slice none 0 0,.int .u8 0,.int .u8 0,.int .u8 0,.slice none 0 0,.int .u8 0],.agg #[.int .u8 0,.int .u8 0,.int .i64 0,.int .i64 0,.int .u8 0,.int .u8 0]]
def qw0(os:Os){H:Type}(enc:TypeId×Value->H):∃places,DataW.whole enc Tryz.prog ((JP os).forCall (fun _ _=>0) ⟨#[],wit,[]⟩).memory Tryz.f5.params.toList Rows.errorboundChecksSpec.vars false wit.toList 8=some ([.agg [.agg [.lit (.int .u8 0),.lit (.int .u8 0),.lit (.int .u8 0),.nil],.agg [.lit (.int .u8 0),.lit (.int .u8 0),.lit (.int .u8 0),.nil],.lit (.int .u8 0)],.agg [.lit (.int .u8 0),.lit (.int .u8 0),.agg [.lit (.int .i64 0),.lit (.int .i64 0),.lit (.int .u8 0),.lit (.int .u8 0)]]],[],places):=
 ⟨[],by kernel_rfl⟩
set_option maxRecDepth 100000 in
def qut(os:Os)(started:os.Started)(H:Type)(enc:TypeId×Value->H)(F:Stop.Interp):
 ReturnsInHanded {} Tryz.checked os 5 .any ((OpenSpec.ofChange Rows.errorboundChecksSpec).preRow enc Tryz.prog Tryz.f5 Rows.errorboundChecksRow.domain false Rows.errorboundChecksRow.laid) (((OpenSpec.ofChange Rows.errorboundChecksSpec).at F).post enc Tryz.prog Tryz.f5 false true false false):=by
 obtain⟨places,hx⟩:=qw0 os enc;refine returnsInHanded_of_row (C:=Tryz.checked) (s:=OpenSpec.ofChange Rows.errorboundChecksSpec) own started (by kernel_rfl) Tryz.func5
  (witness_row_at (enc:=enc) (C:=Tryz.checked) false (JP os) wit rfl ak ak ak
 (OpenSpec.preRow_of_cond 8 hx ak (fun k hk=>by cases hk) ak (qmq os _))) ?_
 intro W base args ds gs before hval hW _ _ hsz hL hsh _;exact qmu H enc W base args ds gs before hval hW
end Go.Proofs.YtaffcpfhedadhaaGreatDoor.errorboundChecks
