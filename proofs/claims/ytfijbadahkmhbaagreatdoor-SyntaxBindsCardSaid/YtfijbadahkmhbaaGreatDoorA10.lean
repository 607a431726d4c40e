/-
  Part 10 (chapter 43): lemmas, walks. Each theorem states its own conditions.
-/
import Derived.Sort.Grow
import Derived.Sort.EncStr
import Derived.Shelf.Strings.Builder1
import Derived.Shelf.Strings.Builder2
import Derived.Shelf.Strings.OnBuilder
import Derived.Shelf.Strings.Trim
import Derived.Shelf.Small.Utf8
import Derived.Shelf.Small.Bits
import Derived.Shelf.Small.Strs
import Derived.Shelf.Small.Wraps
import Derived.Shelf.Strings.BuilderF
import Derived.Shelf.Strings.BuilderK
import Derived.Shelf.Utf8.RuneCount
import Derived.Shelf.Strings.Builder2Cap
import Derived.Shelf.Strconv.Itoa0
import Derived.Shelf.Strings.Search1
import Derived.Shelf.Strings.Search2
import Derived.Shelf.Strings.Search3
import Derived.Shelf.Strings.Cut
import Derived.Shelf.Strings.Count
import Derived.Shelf.LaysM
import Derived.Shelf.Strings.Shaped
import Derived.Shelf.Sort.Plain
import Derived.Shelf.Strings.Prefix
import Derived.Shelf.Strings.Split
import Derived.Shelf.Strings.Replace
import Derived.Shelf.Strings.SplitShaped
import Derived.Shelf.Unicode.Decode
import Derived.Shelf.Strings.Runes
import Derived.Shelf.Strings.RuneCount
import Derived.Shelf.Strings.AsciiSet
import Derived.Shelf.Bits.Mul64
import Derived.Shelf.Unicode.DecodeSlow
import Derived.Shelf.Unicode.DecodeAny
import Derived.Shelf.Strings.BuilderCap
import Derived.Shelf.Slices.Turned
import Derived.Shelf.Slices.Equal
import Derived.Shelf.Slices.CompactS
import Derived.Ground.Names2Prog
import Derived.Shelf.Slices.SearchI
import Derived.Shelf.Slices.Cells
import Derived.Shelf.Slices.In.SortNone
import Derived.Shelf.Slices.Empties2
import Derived.Test.YtfijbadahkmhbaaGreatDoorProg
import Derived.Test.YtfijbadahkmhbaaGreatDoorA04
import Derived.Test.YtfijbadahkmhbaaGreatDoorA08
import Derived.Test.YtfijbadahkmhbaaGreatDoorA09
set_option linter.unusedVariables false
set_option linter.unusedSimpArgs false
set_option maxRecDepth 20000
set_option maxHeartbeats 20000000
namespace Go.Via
open Go Go.RowKit
section
variable{P:Program}{bl:List Nat}{ops:Array Oper}{K:St→Prop}{rest:List Oper}{nt:Nat}{t:List (Nat×Value)}{L:List Blk}{d:Nat}{ty:TypeId}{pos:String}{af:Array Edge}{g:Option (Nat×Bool)}{x y:Operand}
theorem r_gfcallM{f:Nat}{args:List Operand}{ts:Array TypeId}{dst:Option Nat}(vs caps:List Value){A C:List Blk}{X:Type}{res:X→Value}{L1:X→List Blk}(ks is:List Nat)(mk:X→List Blk)(hM:isM bl=true)(hd:(match dst with|some d=>Nat.blt d nt|none=>true)=true)
 (hg:wantedS ops ⟨dst,.call {callee:= .value x,args:=args.toArray,argTypes:=ts},ty,pos,af,g⟩ t=some true)(hf:ev t x=some (.func (.func f) #[] caps.toArray))
 (hv:args.map (ev t)=vs.map some)(hc:ECall P f (A++C) (vs++caps) X res L1)(hn:ks.Nodup)(hk:ks.map (fun k=>L[k]?)=A.map some)(hA:(A.all fun b=>b.own&&(Nat.blt b.e mapMark||b.base.isSome))=true)(hp:Picks L (is.map some) C)(hC:(C.all fun b=> !b.own)=true)(hap:apartB ((ks++is).map some) ((A++C).map (·.own))=true)
 (hlen:∀x,Nat.ble ks.length (L1 x).length=true)(hown:∀x,∀b∈L1 x,b.own=true∨∃a∈A,a.base=b.base∧b.base.isSome=true)(hL:∀x,setG L ks (L1 x)=mk x)
 (h:∀x,Run P bl ops rest (({nt:=nt,t:=t,L:=mk x}:St).put dst (res x)) K):
 Run P bl ops (⟨dst,.call {callee:= .value x,args:=args.toArray,argTypes:=ts},ty,pos,af,g⟩::rest) ⟨nt,t,L⟩ K:=
 run_m hd hg hM (X:=X) (nx:=fun x=>({nt:=nt,t:=t,L:=mk x}:St).put dst (res x)) (fun hd' B a w hr=>by
 have h1:(execOp a.eval ⟨dst,.call {callee:= .value x,args:=args.toArray,argTypes:=ts},ty,pos,af,g⟩).run P w= .ok (.enter f (vs++caps).toArray) w:=by
  have hfv:=hr.ev hf
  have hva:args.toArray.map a.eval=vs.toArray:=by simp[evs_spec hr hv]
  have hp:=hc.1
  unfold plainF at hp
  cases hq:P.funcs[f]? with
  |none=>rw[hq] at hp;cases hp
  |some fn=>
   rw[hq] at hp
   simp only[Bool.and_eq_true,Bool.not_eq_true'] at hp
   obtain⟨h1,h2⟩:=hp
   have h3:fn.body≠none:=by intro hb;rw[hb] at h1;cases h1
   have h4:¬fn.name= "runtime.NumGoroutine" :=by simpa using h2
   simp[execOp,resolve,hfv,hva,Deferred.ofValue,invoke,callFunc,hq,h4,h3]
 unfold Oper.wp
 rw[h1]
 refine(hc.at ks is hn hk hA hp hC hap hlen hown hr.mem).mono ?_
 rintro e w' ⟨x,rfl,hw⟩
 refine⟨x,?_⟩
 rw[hL] at hw
 exact hr.put hd' hw) h
end
end Go.Via
namespace Go.Proofs.YtfijbadahkmhbaaGreatDoor
open Go Go.RowKit Go.Via
theorem c_syntax_count(op:Int):PCall Tryz.prog 87 #[.int .i64 op] (.int .i64 (cntL op)):=by
 refine⟨by kernel_rfl,fun w=>?_⟩;refine cB1 42 Tryz.func87 (LRel.nil w) ?_;refine A19 ?_;refine Cd ?_ ?_<;>intro hb0
 ·have k1:op=1:=by have:=eq_of_beq hb0;omega
  refine A2 ?_;refine Cd ?_ ?_<;>intro hb1
  ·refine A8 ?_;refine E1 fun w hL=>⟨?_,hL.below⟩;exact congrArg (fun z=>Ending.returned (.int .i64 z)) (by subst k1;rfl)
  ·rw[hb0] at hb1;cases hb1
 ·have k1:op≠1:=by have:=ne_of_beq_false hb0;omega
  refine A6 ?_;refine Cd ?_ ?_<;>intro hb1
  ·have k3:op=3:=by have:=eq_of_beq hb1;omega
   refine A2 ?_;refine Cd ?_ ?_<;>intro hb2
   ·refine A8 ?_;refine E1 fun w hL=>⟨?_,hL.below⟩;exact congrArg (fun z=>Ending.returned (.int .i64 z)) (by subst k3;rfl)
   ·rw[hb1] at hb2;cases hb2
  ·have k3:op≠3:=by have:=ne_of_beq_false hb1;omega
   refine A6 ?_;refine Cd ?_ ?_<;>intro hb2
   ·have k4:op=4:=by have:=eq_of_beq hb2;omega
    refine A2 ?_;refine Cd ?_ ?_<;>intro hb3
    ·refine A8 ?_;refine E1 fun w hL=>⟨?_,hL.below⟩;exact congrArg (fun z=>Ending.returned (.int .i64 z)) (by subst k4;rfl)
    ·rw[hb2] at hb3;cases hb3
   ·have k4:op≠4:=by have:=ne_of_beq_false hb2;omega
    refine A5 ?_;refine Cd ?_ ?_<;>intro hb3
    ·have k5:op=5:=by have:=eq_of_beq hb3;omega
     refine A8 ?_;refine E1 fun w hL=>⟨?_,hL.below⟩;exact congrArg (fun z=>Ending.returned (.int .i64 z)) (by subst k5;rfl)
    ·have k5:op≠5:=by have:=ne_of_beq_false hb3;omega
     refine A6 ?_;refine Cd ?_ ?_<;>intro hb4
     ·have k25:op=25:=by have:=eq_of_beq hb4;omega
      refine A8 ?_;refine E1 fun w hL=>⟨?_,hL.below⟩;exact congrArg (fun z=>Ending.returned (.int .i64 z)) (by subst k25;rfl)
     ·have k25:op≠25:=by have:=ne_of_beq_false hb4;omega
      refine A7 ?_;refine Cd ?_ ?_<;>intro hb5
      ·have k2:op=2:=by have:=eq_of_beq hb5;omega
       refine A2 ?_;refine Cd ?_ ?_<;>intro hb6
       ·refine A8 ?_;refine E1 fun w hL=>⟨?_,hL.below⟩;exact congrArg (fun z=>Ending.returned (.int .i64 z)) (by subst k2;rfl)
       ·rw[hb5] at hb6;cases hb6
      ·have k2:op≠2:=by have:=ne_of_beq_false hb5;omega
       refine A5 ?_;refine Cd ?_ ?_<;>intro hb6
       ·have k6:op=6:=by have:=eq_of_beq hb6;omega
        refine A8 ?_;refine E1 fun w hL=>⟨?_,hL.below⟩;exact congrArg (fun z=>Ending.returned (.int .i64 z)) (by subst k6;rfl)
       ·have k6:op≠6:=by have:=ne_of_beq_false hb6;omega
        refine A6 ?_;refine r_scall [] [] rfl rfl rfl c_syntax_functions trivial rfl (.inr fun _ b hb=>by rw[List.mem_singleton.1 hb]) (fun ga=>?_);refine A5 ?_;refine El (ι:={i:Nat // i≤12∧(funT.take i).find? (fun f=>decide ((f.2.1:Int)=op))=none}) (fun⟨i,hi,hI⟩=>([(0,.int .i64 op),(18,slv (some ga) 0 12 12),(19,.int .i64 12),(20,.int .i64 (i:Nat))],[⟨some ga,114,tabC funT,36,true⟩],12-i)) ⟨0,Nat.zero_le _,rfl⟩ ?_;rintro⟨i,hi,hI⟩;(try dsimp only);refine A6 ?_;refine Cd ?_ ?_<;>intro hb8
        ·have hlt:i<12:=(by have:=of_decide_eq_true hb8;omega);obtain⟨o,ho⟩:∃o,funT[i]? =some o:=⟨funT[i]'(by show i<12;exact hlt),List.getElem?_eq_getElem _⟩;refine A6 ?_;refine Ix 0 (i*3) ?_;refine r_load (v:= .agg #[.string (strU o.1),.int .i64 (o.2.1:Nat),.int .i64 (o.2.2:Nat)]) 0 (i*3) _ rfl rfl rfl rfl ti114 (tabC_get ho) rfl (by decide) rfl ?_;refine r_alloc [_,_,_] 3 (fun g=>[_,⟨some g,114,_,3,true⟩]) rfl rfl z114 rfl rfl (fun _=>rfl) (fun g0=>?_);refine So 1 0 [_,⟨some g0,114,_,3,true⟩] [_,_,_] ?_;refine A10 ?_;refine Cd ?_ ?_<;>intro hb9
         ·have hop:decide ((o.2.1:Int)=op)=true:=by have hh:=hb9;simpa using hh
          refine A13 ?_;refine E1 fun w hL=>⟨?_,hL.below⟩;exact congrArg (fun z=>Ending.returned (.int .i64 z)) (by unfold cntL;rw[if_neg (by omega),if_neg (by omega),if_neg (by omega)];rw[find_some_at hI ho hop])
         ·have hop:decide ((o.2.1:Int)=op)=false:=by have hh:=hb9;simpa using hh
          refine A4 ?_;refine Ar (((i+1:Nat):Int)) ?_;refine A3 ?_;exact Nl ⟨i+1,hlt,find_none_step hI ho hop⟩ (hL:=Weak.auto)
        ·have hge:i=12:=(by have:=of_decide_eq_false hb8;omega);subst hge;have hF:funT.find? (fun f=>decide ((f.2.1:Int)=op))=none:=find_none_all hI (Nat.le_refl _);refine A8 ?_;refine r_scall [] [] rfl rfl rfl c_syntax_operators trivial rfl (.inr fun _ b hb=>by rw[List.mem_singleton.1 hb]) (fun gc=>?_);refine A5 ?_;refine El (ι:={i:Nat // i≤12∧(opsT.take i).find? (fun f=>decide ((f.2.1:Int)=op))=none}) (fun⟨i,hi,hI⟩=>([(0,.int .i64 op),(31,slv (some gc) 0 12 12),(32,.int .i64 12),(33,.int .i64 (i:Nat))],[⟨some ga,114,tabC funT,36,true⟩,⟨some gc,110,tabC opsT,36,true⟩],12-i)) ⟨0,Nat.zero_le _,rfl⟩ ?_;rintro⟨i,hi,hI⟩;(try dsimp only);refine A6 ?_;refine Cd ?_ ?_<;>intro hb10
         ·have hlt:i<12:=(by have:=of_decide_eq_true hb10;omega);obtain⟨o,ho⟩:∃o,opsT[i]? =some o:=⟨opsT[i]'(by show i<12;exact hlt),List.getElem?_eq_getElem _⟩;refine A6 ?_;refine Ix 1 (i*3) ?_;refine r_load (v:= .agg #[.string (strU o.1),.int .i64 (o.2.1:Nat),.int .i64 (o.2.2:Nat)]) 1 (i*3) _ rfl rfl rfl rfl ti110 (tabC_get ho) rfl (by decide) rfl ?_;refine r_alloc [_,_,_] 3 (fun g=>[_,_,⟨some g,110,_,3,true⟩]) rfl rfl z110 rfl rfl (fun _=>rfl) (fun g0=>?_);refine So 2 0 [_,_,⟨some g0,110,_,3,true⟩] [_,_,_] ?_;refine A10 ?_;refine Cd ?_ ?_<;>intro hb11
          ·have hop:decide ((o.2.1:Int)=op)=true:=by have hh:=hb11;simpa using hh
           refine A11 ?_;refine E1 fun w hL=>⟨?_,hL.below⟩;exact congrArg (fun z=>Ending.returned (.int .i64 z)) (by unfold cntL;rw[if_neg (by omega),if_neg (by omega),if_neg (by omega)];rw[hF,find_some_at hI ho hop])
          ·have hop:decide ((o.2.1:Int)=op)=false:=by have hh:=hb11;simpa using hh
           refine A4 ?_;refine Ar (((i+1:Nat):Int)) ?_;refine A3 ?_;exact Nl ⟨i+1,hlt,find_none_step hI ho hop⟩ (hL:=Weak.auto)
         ·have hge:i=12:=(by have:=of_decide_eq_false hb10;omega);subst hge;have hO:opsT.find? (fun f=>decide ((f.2.1:Int)=op))=none:=find_none_all hI (Nat.le_refl _);refine A11 ?_;refine E1 fun w hL=>⟨?_,hL.below⟩;exact congrArg (fun z=>Ending.returned (.int .i64 z)) (by unfold cntL;rw[if_neg (by omega),if_neg (by omega),if_neg (by omega)];rw[hF,hO])
theorem c_integer_wordR(s:ByteArray)(hs:s.size≤1000000):ECall Tryz.prog 145 [] [.string s] Int (fun u=> .tuple #[.int .u64 u,.bool (decide (s.size≤8))]) (fun _=>[]):=by
 refine⟨by kernel_rfl,fun B w hD hL0=>?_⟩;refine cB1 23 Tryz.func145 hL0 ?_;refine A11 ?_;refine Kr 7 (.int .i64 (s.size:Nat)) ?_;refine A3 ?_;refine Cd ?_ ?_<;>intro hb0
 ·have h8:¬s.size≤8:=(by have:=of_decide_eq_true hb0;omega);refine A8 ?_;refine at_end2 rfl (res_tmp rfl) (res_tmp rfl) (fun w hL=>⟨0,by rw[decide_eq_false h8],hL⟩)
 ·have h8:s.size≤8:=(by have:=of_decide_eq_false hb0;omega);refine A12 ?_;refine Kr 10 (.int .i64 (s.size:Nat)) ?_;refine A4 ?_;refine El (ι:={x:Nat×Int // x.1≤s.size}) (fun⟨⟨i,u⟩,hi⟩=>([(0,.string s),(4,.int .u64 u),(10,.int .i64 (s.size:Nat)),(11,.int .i64 (i:Nat))],[],s.size-i)) ⟨(0,0),Nat.zero_le _⟩ ?_;rintro⟨⟨i,u⟩,hi⟩;(try dsimp only);refine A6 ?_;refine Cd ?_ ?_<;>intro hb2
  ·have hlt:i<s.size:=(by have:=of_decide_eq_true hb2;omega);obtain⟨c,hx⟩:∃c,s.data.toList[i]? =some c:=⟨s.data.toList[i]'(by simpa using hlt),List.getElem?_eq_getElem _⟩;refine A12 ?_;refine r_shift rfl rfl rfl rfl (by omega) rfl ?_;refine A2 ?_;refine r_idxS (b:=c) (r:=(c.toNat:Int)) u9 rfl rfl rfl rfl (by omega) hx rfl ?_;refine r_conv u5 u163 rfl rfl rfl rfl ?_;refine r_or rfl rfl rfl rfl rfl ?_;refine A5 ?_;refine Ar (((i+1:Nat):Int)) ?_;refine A3 ?_;exact Nl ⟨(i+1,_),hlt⟩
  ·refine A13 ?_;refine at_end2 rfl (res_tmp rfl) (res_tmp rfl) (fun w hL=>⟨u,by rw[decide_eq_true h8],hL⟩)
theorem c_integer_ToIntR(b:Bool)(s:ByteArray)(hs:s.size≤1000000):ECall Tryz.prog 109 [] [.agg #[.bool b,.string s]] (Int×Bool) (fun z=> .tuple #[.int .i64 z.1,.bool z.2]) (fun _=>[]):=by
 refine⟨by kernel_rfl,fun B w hD hL0=>?_⟩;refine cB1 35 Tryz.func109 hL0 ?_;refine A2 ?_;refine Bo [_,_] 2 (fun g=>[⟨some g,25,_,2,true⟩]) (fun g0=>?_);refine A5 ?_;refine at_regionM ?_;refine A2 ?_;refine Kr 8 (.string s) ?_;refine Gm 0 [] [] (fun _=>[_]) (c_integer_wordR s hs) (fun u=>?_);refine A16 ?_;refine Cd ?_ ?_<;>intro hb0
 ·refine A9 ?_;refine at_end2 rfl (res_tmp rfl) (res_tmp rfl) (fun w hL=>⟨(_,_),rfl,hL.pk []⟩)
 ·refine A5 ?_;refine Rs 18 ?_ ?_<;>intro hb1
  ·refine A6 ?_;refine Cd ?_ ?_<;>intro hb2
   ·refine A3 ?_;refine r_neg rfl rfl rfl (rfl) ?_;refine r_conv u163 u3 rfl rfl rfl rfl ?_;refine A7 ?_;refine at_end2 rfl (res_tmp rfl) (res_tmp rfl) (fun w hL=>⟨(_,_),rfl,hL.pk []⟩)
   ·refine A6 ?_;refine Rs 29 ?_ ?_<;>intro hb3
    ·refine A6 ?_;refine Cd ?_ ?_<;>intro hb4
     ·refine A3 ?_;refine r_conv u163 u3 rfl rfl rfl rfl ?_;refine A7 ?_;refine at_end2 rfl (res_tmp rfl) (res_tmp rfl) (fun w hL=>⟨(_,_),rfl,hL.pk []⟩)
     ·refine A10 ?_;refine at_end2 rfl (res_tmp rfl) (res_tmp rfl) (fun w hL=>⟨(_,_),rfl,hL.pk []⟩)
    ·refine A17 ?_;refine at_end2 rfl (res_tmp rfl) (res_tmp rfl) (fun w hL=>⟨(_,_),rfl,hL.pk []⟩)
  ·refine A13 ?_;refine Rs 29 ?_ ?_<;>intro hb2
   ·refine A6 ?_;refine Cd ?_ ?_<;>intro hb3
    ·refine A3 ?_;refine r_conv u163 u3 rfl rfl rfl rfl ?_;refine A7 ?_;refine at_end2 rfl (res_tmp rfl) (res_tmp rfl) (fun w hL=>⟨(_,_),rfl,hL.pk []⟩)
    ·refine A10 ?_;refine at_end2 rfl (res_tmp rfl) (res_tmp rfl) (fun w hL=>⟨(_,_),rfl,hL.pk []⟩)
   ·refine A17 ?_;refine at_end2 rfl (res_tmp rfl) (res_tmp rfl) (fun w hL=>⟨(_,_),rfl,hL.pk []⟩)
theorem c_syntax_idR(b1:Bool)(s1:ByteArray)(b2:Bool)(s2:ByteArray)(hs1:s1.size≤1000000)(hs2:s2.size≤1000000)(hq:isQ b1 s1 b2 s2=false):ECall Tryz.prog 89 [] [.agg #[.bool b1,.string s1,.bool b2,.string s2]] Int (fun z=> .tuple #[.int .i64 z,.bool false]) (fun _=>[]):=by
 refine⟨by kernel_rfl,fun B w hD hL0=>?_⟩;refine cB1 33 Tryz.func89 hL0 ?_;refine A2 ?_;refine Bo [_,_,_,_] 4 (fun g=>[⟨some g,27,_,4,true⟩]) (fun g0=>?_);refine A5 ?_;refine at_regionM ?_;refine A1 ?_;refine Ld 0 0 [_,_] ti25 ?_;refine Gm 0 [] [] (fun _=>[_]) (c_integer_ToIntR b1 s1 hs1) (fun z=>?_);refine A12 ?_;refine Rs 14 ?_ ?_<;>intro hb0
 ·refine Ld 0 0 [_,_,_,_] ti27 ?_;refine Pc (c_rational_Check b1 s1 b2 s2 hs1 hs2) ?_;refine r_know 16 (.int .i64 5) rfl (by rw[hq];rfl) ?_;refine A1 ?_;refine Kr 17 (.bool false) ?_;refine A20 ?_;refine at_end2 rfl (res_tmp rfl) (res_tmp rfl) (fun w hL=>⟨z.1,rfl,hL.pk []⟩)
 ·refine A23 ?_;refine at_end2 rfl (res_tmp rfl) (res_tmp rfl) (fun w hL=>⟨z.1,rfl,hL.pk []⟩)
end Go.Proofs.YtfijbadahkmhbaaGreatDoor
namespace Go.Via
open Go Go.RowKit
theorem PCall.toE{P:Program}{f:Nat}{args:List Value}{v:Value}{X:Type}(x:X){res:X→Value}(h:PCall P f args.toArray v)(hv:v=res x):ECall P f [] args X res (fun _=>[]):=
 ⟨h.1,fun B w hD hL=>(h.2 w).mono fun e w' hh=>⟨x,by rw[hh.1,hv],hL.same hh.2⟩⟩
theorem row_op{cs:List Value}{m:Nat}{y:XT}{u:XR y}(h:(cs.drop m).take 7=u.cs):(cs.drop m).take 1=[.int .i64 u.op]:=by
 have h2:=congrArg (List.take 1) h
 rw[List.take_take] at h2
 exact h2
end Go.Via
namespace Go.Proofs.YtfijbadahkmhbaaGreatDoor
open Go Go.RowKit Go.Via
theorem c_syntax_idZ{x:XT}(z:XR x)(hf:x.num.fit=true):ECall Tryz.prog 89 [] [.agg #[.bool z.b1,.string z.s1,.bool z.b2,.string z.s2]] Int (fun i=> .tuple #[.int .i64 i,.bool x.num.isId]) (fun _=>[]):=by
 obtain⟨_,_,h3,_,_,_⟩:=z.inv
 have hs:=NumV.fit_cells h3 hf
 cases ho:x.num.ok with
 |true=>
  obtain⟨q,h1,h2,h4,h5,h6,h7⟩:=NumV.isId_yes h3 hf ho
  rw[h1,h2,h4,h5,h6]
  exact PCall.toE _ (c_syntax_id q h7) rfl
 |false=>
  have hq:isQ z.b1 z.s1 z.b2 z.s2=false:=by rw[NumV.ok_cells h3];exact ho
  rw[NumV.isId_no h3 ho]
  exact c_syntax_idR z.b1 z.s1 z.b2 z.s2 hs.1 hs.2 hq
theorem c_checkNode_1{x:XT}(z:XR x)(hfn:x.name.length≤1000000)(hfu:x.num.fit=true)(hop:x.op=1):ECall Tryz.prog 49 [gB z.T false] [z.v] Unit (fun _=> .int .i64 (nodeE x:Nat)) (fun _=>[]):=by
 refine⟨by kernel_rfl,fun B w hD hL0=>?_⟩;obtain⟨h1,h2,h3,h4,h5,h6⟩:=z.inv;have hs:=NumV.fit_cells h3 hfu
 have hcn:cntL x.op=0:=(by rw[hop];rfl);refine cB1 118 Tryz.func49 hL0 ?_;refine A2 ?_;refine Bo [_,_,_,_,_,_,_] 7 (fun g=>[_,⟨some g,30,_,7,true⟩]) (fun g0=>?_);refine A7 ?_;refine Kp 9 h1 ?_;refine Pc (c_syntax_count x.op) ?_;refine A4 ?_;refine at_drawnI [2000000] mixed (by kernel_rfl) (by kernel_rfl) ?_;refine A2 ?_;refine Kp 12 h1 ?_;refine A1 ?_;refine r_know 13 (.bool true) rfl (by rw[hop];rfl) ?_;refine A7 ?_;refine Kp 20 h1 ?_;refine A1 ?_;refine r_know 21 (.bool false) rfl (by rw[hop];rfl) ?_;refine A3 ?_;refine Kp 24 h1 ?_;refine A1 ?_;refine r_know 25 (.bool false) rfl (by rw[hop];rfl) ?_;refine A14 ?_;refine Cd ?_ ?_<;>intro hb0
 ·exfalso;have hh:=of_decide_eq_true hb0;rw[hcn] at hh;omega
 ·have hc:¬cntL x.op<0:=of_decide_eq_false hb0;refine A5 ?_;refine r_know 33 (.int .i64 (x.args.length:Nat)) rfl (by rw[h5]) ?_;refine A3 ?_;refine Rs 36 ?_ ?_<;>intro hb1
  ·have hlen:((x.args.length:Nat):Int)≠cntL x.op:=by have hh:=hb1;simpa using hh
   refine A30 ?_;refine at_end1 rfl (res_tmp rfl) (fun w hL=>⟨(),eI (by unfold nodeE;rw[if_neg hc,if_pos (.inl hlen)]),hL.pk []⟩)
  ·have hlen:((x.args.length:Nat):Int)=cntL x.op:=by have hh:=hb1;simpa using hh
   refine A15 ?_;refine r_know 51 (.string (strU x.name)) rfl (by rw[h2]) ?_;refine A1 ?_;refine r_know 52 (.bool (x.name !=[])) rfl (by rw[show(strU x.name !=⟨#[]⟩)=(strU x.name !=strU []) from rfl,bne,strU_beq];rfl) ?_;refine A5 ?_;refine Cd ?_ ?_<;>intro hb2
   ·have hnm:x.name≠[]:=by simpa using hb2
    refine A8 ?_;refine at_end1 rfl (res_tmp rfl) (fun w hL=>⟨(),eI (by unfold nodeE;rw[if_neg hc,if_pos (.inr (.inr ⟨(by rw[hop];decide),(by rw[hop];decide),hnm⟩))]),hL.pk []⟩)
   ·have hnm:x.name=[]:=by simpa using hb2
    refine A4 ?_;refine Kp 57 h1 ?_;refine A1 ?_;refine r_know 58 (.bool true) rfl (by rw[hop];rfl) ?_;refine A2 ?_;refine Ld 1 2 [_,_,_,_] ti27 ?_;refine Pc (c_rational_Check z.b1 z.s1 z.b2 z.s2 hs.1 hs.2) ?_;refine r_know 62 (.int .i64 (if x.num.ok=true then 0 else 5)) rfl (by rw[NumV.ok_cells h3]) ?_;refine A5 ?_;refine Cd ?_ ?_<;>intro hb3
    ·have hok:x.num.ok=false:=by have hh:=hb3;revert hh;cases x.num.ok<;>simp
     refine A8 ?_;refine at_end1 rfl (res_tmp rfl) (fun w hL=>⟨(),eI (by unfold nodeE;rw[if_neg hc,if_neg (fun h=>by
 rcases h with h|⟨ha,hb,h⟩|⟨ha,hb,h⟩
 ·exact h hlen
 ·exact ha hop
 ·exact h hnm),if_pos ⟨hop,hok⟩]),hL.pk []⟩)
    ·have hok:x.num.ok=true:=by have hh:=hb3;revert hh;cases x.num.ok<;>simp
     refine A4 ?_;refine Kp 67 h1 ?_;refine A1 ?_;refine r_know 68 (.bool false) rfl (by rw[hop];rfl) ?_;refine A25 ?_;refine at_regionM ?_;refine A1 ?_;refine Ld 1 2 [_,_,_,_] ti27 ?_;refine Gm 0 [] [] (fun _=>[_,_]) (c_syntax_idZ z hfu) (fun idn=>?_);refine A11 ?_;refine Kp 92 h1 ?_;refine A1 ?_;refine r_know 93 (.bool false) rfl (by rw[hop];rfl) ?_;refine A14 ?_;refine Kp 99 h1 ?_;refine A1 ?_;refine r_know 100 (.bool false) rfl (by rw[hop];rfl) ?_;refine A9 ?_;refine Kp 109 h1 ?_;refine A1 ?_;refine r_know 110 (.bool false) rfl (by rw[hop];rfl) ?_;refine A18 ?_;refine at_end1 rfl (res_tmp rfl) (fun w hL=>⟨(),eI (by unfold nodeE;rw[if_neg hc,if_neg (fun h=>by
 rcases h with h|⟨ha,hb,h⟩|⟨ha,hb,h⟩
 ·exact h hlen
 ·exact ha hop
 ·exact h hnm),if_neg (fun h=>by rw[hok] at h;cases h.2),if_neg (fun h=>absurd h.1 (by rw[hop];decide)),if_neg (fun h=>absurd h.1 (by rw[hop];decide)),if_neg (fun h=>by
 rcases h with h|h
 ·exact absurd h.1 (by rw[hop];decide)
 ·exact absurd h.1 (by rw[hop];decide))]),hL.pk []⟩)
theorem c_checkNode_2{x:XT}(z:XR x)(hfn:x.name.length≤1000000)(hfu:x.num.fit=true)(hop:x.op=2):ECall Tryz.prog 49 [gB z.T false] [z.v] Unit (fun _=> .int .i64 (nodeE x:Nat)) (fun _=>[]):=by
 refine⟨by kernel_rfl,fun B w hD hL0=>?_⟩;obtain⟨h1,h2,h3,h4,h5,h6⟩:=z.inv;have hs:=NumV.fit_cells h3 hfu
 have hcn:cntL x.op=2:=(by rw[hop];rfl);refine cB1 118 Tryz.func49 hL0 ?_;refine A2 ?_;refine Bo [_,_,_,_,_,_,_] 7 (fun g=>[_,⟨some g,30,_,7,true⟩]) (fun g0=>?_);refine A7 ?_;refine Kp 9 h1 ?_;refine Pc (c_syntax_count x.op) ?_;refine A4 ?_;refine at_drawnI [2000000] mixed (by kernel_rfl) (by kernel_rfl) ?_;refine A2 ?_;refine Kp 12 h1 ?_;refine A1 ?_;refine r_know 13 (.bool false) rfl (by rw[hop];rfl) ?_;refine A3 ?_;refine Kp 16 h1 ?_;refine A1 ?_;refine r_know 17 (.bool false) rfl (by rw[hop];rfl) ?_;refine A3 ?_;refine Kp 20 h1 ?_;refine A1 ?_;refine r_know 21 (.bool false) rfl (by rw[hop];rfl) ?_;refine A3 ?_;refine Kp 24 h1 ?_;refine A1 ?_;refine r_know 25 (.bool false) rfl (by rw[hop];rfl) ?_;refine A14 ?_;refine Cd ?_ ?_<;>intro hb0
 ·exfalso;have hh:=of_decide_eq_true hb0;rw[hcn] at hh;omega
 ·have hc:¬cntL x.op<0:=of_decide_eq_false hb0;refine A5 ?_;refine r_know 33 (.int .i64 (x.args.length:Nat)) rfl (by rw[h5]) ?_;refine A3 ?_;refine Rs 36 ?_ ?_<;>intro hb1
  ·have hlen:((x.args.length:Nat):Int)≠cntL x.op:=by have hh:=hb1;simpa using hh
   refine A30 ?_;refine at_end1 rfl (res_tmp rfl) (fun w hL=>⟨(),eI (by unfold nodeE;rw[if_neg hc,if_pos (.inl hlen)]),hL.pk []⟩)
  ·have hlen:((x.args.length:Nat):Int)=cntL x.op:=by have hh:=hb1;simpa using hh
   have hl2:x.args.length=2:=(by rw[hcn] at hlen;omega);obtain⟨y0,hy0⟩:∃y,x.args[0]? =some y:=⟨x.args[0]'(by omega),List.getElem?_eq_getElem _⟩;obtain⟨y1,hy1⟩:∃y,x.args[1]? =some y:=⟨x.args[1]'(by omega),List.getElem?_eq_getElem _⟩;obtain⟨ga,oa,ca,u0,hza,hma,hra,hTa,hna⟩:=z.arg hy0;obtain⟨gc,oc,cc,u1,hzc,hmc,hrc,hTc,hnc⟩:=z.arg hy1;refine A4 ?_;refine Ld 1 2 [_,_,_,_] ti27 ?_;refine r_build [] rfl rfl rfl (bd27_0) ?_;refine r_neqAgg rfl rfl rfl rfl gd27 (eq27r _ _ _ _ _ _ _ _) ?_;refine r_know 43 (.bool (!x.num.isZ)) rfl (by rw[NumV.isZ_cells h3]) ?_;refine A3 ?_;refine Rs 46 ?_ ?_<;>intro hb2
   ·have hz:x.num.isZ=false:=by simpa using hb2
    refine A20 ?_;refine at_end1 rfl (res_tmp rfl) (fun w hL=>⟨(),eI (by unfold nodeE;rw[if_neg hc,if_pos (.inr (.inl ⟨(by rw[hop];decide),(by rw[hop];decide),hz⟩))]),hL.pk []⟩)
   ·have hz:x.num.isZ=true:=by simpa using hb2
    refine A5 ?_;refine r_know 51 (.string (strU x.name)) rfl (by rw[h2]) ?_;refine A1 ?_;refine r_know 52 (.bool (x.name !=[])) rfl (by rw[show(strU x.name !=⟨#[]⟩)=(strU x.name !=strU []) from rfl,bne,strU_beq];rfl) ?_;refine A5 ?_;refine Cd ?_ ?_<;>intro hb3
    ·have hnm:x.name≠[]:=by simpa using hb3
     refine A8 ?_;refine at_end1 rfl (res_tmp rfl) (fun w hL=>⟨(),eI (by unfold nodeE;rw[if_neg hc,if_pos (.inr (.inr ⟨(by rw[hop];decide),(by rw[hop];decide),hnm⟩))]),hL.pk []⟩)
    ·have hnm:x.name=[]:=by simpa using hb3
     refine A4 ?_;refine Kp 57 h1 ?_;refine A1 ?_;refine r_know 58 (.bool false) rfl (by rw[hop];rfl) ?_;refine A14 ?_;refine Kp 67 h1 ?_;refine A1 ?_;refine r_know 68 (.bool true) rfl (by rw[hop];rfl) ?_;refine A3 ?_;refine r_know 71 (slv (some ga) oa z.n z.cap) rfl (by rw[hza];rfl) ?_;refine r_indexAddrG (oa+0*7) u28 ti30 rfl rfl rfl rfl (by omega) (by omega) rfl ?_;refine r_fieldAddrG (oa+0*7) 0 rfl rfl rfl ti30 rfl rfl ?_;refine r_loadT (v:= .int .i64 u0.op) 0 (oa+0*7) _ rfl rfl rfl z.hT hma hna rfl ti3 (row_op hra) rfl rfl rfl ?_;refine A2 ?_;refine Rs 76 ?_ ?_<;>intro hb4
     ·have ha0:y0.op≠1:=by rw[←u0.inv.1];simpa using hb4
      refine A20 ?_;refine at_end1 rfl (res_tmp rfl) (fun w hL=>⟨(),eI (by unfold nodeE;rw[if_neg hc,if_neg (fun h=>by
 rcases h with h|⟨ha,hb,h⟩|⟨ha,hb,h⟩
 ·exact h hlen
 ·rw[hz] at h;cases h
 ·exact h hnm),if_neg (fun h=>absurd h.1 (by rw[hop];decide)),if_pos ⟨hop,.inl (by rw[List.getElem?_map,hy0];simpa using ha0)⟩]),hL.pk []⟩)
     ·have ha0:y0.op=1:=by rw[←u0.inv.1];simpa using hb4
      refine A2 ?_;refine r_know 78 (slv (some gc) oc z.n z.cap) rfl (by rw[hzc];rfl) ?_;refine r_indexAddrG (oc+1*7) u28 ti30 rfl rfl rfl rfl (by omega) (by omega) rfl ?_;refine r_fieldAddrG (oc+1*7) 0 rfl rfl rfl ti30 rfl rfl ?_;refine r_loadT (v:= .int .i64 u1.op) 0 (oc+1*7) _ rfl rfl rfl z.hT hmc hnc rfl ti3 (row_op hrc) rfl rfl rfl ?_;refine A6 ?_;refine Cd ?_ ?_<;>intro hb5
      ·have ha1:y1.op≠1:=by rw[←u1.inv.1];simpa using hb5
       refine A8 ?_;refine at_end1 rfl (res_tmp rfl) (fun w hL=>⟨(),eI (by unfold nodeE;rw[if_neg hc,if_neg (fun h=>by
 rcases h with h|⟨ha,hb,h⟩|⟨ha,hb,h⟩
 ·exact h hlen
 ·rw[hz] at h;cases h
 ·exact h hnm),if_neg (fun h=>absurd h.1 (by rw[hop];decide)),if_pos ⟨hop,.inr (by rw[List.getElem?_map,hy1];simpa using ha1)⟩]),hL.pk []⟩)
      ·have ha1:y1.op=1:=by rw[←u1.inv.1];simpa using hb5
       refine A5 ?_;refine at_regionM ?_;refine A1 ?_;refine Ld 1 2 [_,_,_,_] ti27 ?_;refine Gm 0 [] [] (fun _=>[_,_]) (c_syntax_idZ z hfu) (fun idn=>?_);refine A11 ?_;refine Kp 92 h1 ?_;refine A1 ?_;refine r_know 93 (.bool false) rfl (by rw[hop];rfl) ?_;refine A14 ?_;refine Kp 99 h1 ?_;refine A1 ?_;refine r_know 100 (.bool false) rfl (by rw[hop];rfl) ?_;refine A9 ?_;refine Kp 109 h1 ?_;refine A1 ?_;refine r_know 110 (.bool false) rfl (by rw[hop];rfl) ?_;refine A18 ?_;refine at_end1 rfl (res_tmp rfl) (fun w hL=>⟨(),eI (by unfold nodeE;rw[if_neg hc,if_neg (fun h=>by
 rcases h with h|⟨ha,hb,h⟩|⟨ha,hb,h⟩
 ·exact h hlen
 ·rw[hz] at h;cases h
 ·exact h hnm),if_neg (fun h=>absurd h.1 (by rw[hop];decide)),if_neg (fun h=>by
 rcases h.2 with h|h
 ·rw[List.getElem?_map,hy0] at h;exact h (by rw[Option.map_some,ha0])
 ·rw[List.getElem?_map,hy1] at h;exact h (by rw[Option.map_some,ha1])),if_neg (fun h=>absurd h.1 (by rw[hop];decide)),if_neg (fun h=>by
 rcases h with h|h
 ·exact absurd h.1 (by rw[hop];decide)
 ·exact absurd h.1 (by rw[hop];decide))]),hL.pk []⟩)
theorem c_checkNode_3{x:XT}(z:XR x)(hfn:x.name.length≤1000000)(hfu:x.num.fit=true)(hop:x.op=3):ECall Tryz.prog 49 [gB z.T false] [z.v] Unit (fun _=> .int .i64 (nodeE x:Nat)) (fun _=>[]):=by
 refine⟨by kernel_rfl,fun B w hD hL0=>?_⟩;obtain⟨h1,h2,h3,h4,h5,h6⟩:=z.inv;have hs:=NumV.fit_cells h3 hfu
 have hcn:cntL x.op=0:=(by rw[hop];rfl);refine cB1 118 Tryz.func49 hL0 ?_;refine A2 ?_;refine Bo [_,_,_,_,_,_,_] 7 (fun g=>[_,⟨some g,30,_,7,true⟩]) (fun g0=>?_);refine A7 ?_;refine Kp 9 h1 ?_;refine Pc (c_syntax_count x.op) ?_;refine A4 ?_;refine at_drawnI [2000000] mixed (by kernel_rfl) (by kernel_rfl) ?_;refine A2 ?_;refine Kp 12 h1 ?_;refine A1 ?_;refine r_know 13 (.bool false) rfl (by rw[hop];rfl) ?_;refine A3 ?_;refine Kp 16 h1 ?_;refine A1 ?_;refine r_know 17 (.bool true) rfl (by rw[hop];rfl) ?_;refine A3 ?_;refine Kp 20 h1 ?_;refine A1 ?_;refine r_know 21 (.bool false) rfl (by rw[hop];rfl) ?_;refine A3 ?_;refine Kp 24 h1 ?_;refine A1 ?_;refine r_know 25 (.bool false) rfl (by rw[hop];rfl) ?_;refine A14 ?_;refine Cd ?_ ?_<;>intro hb0
 ·exfalso;have hh:=of_decide_eq_true hb0;rw[hcn] at hh;omega
 ·have hc:¬cntL x.op<0:=of_decide_eq_false hb0;refine A5 ?_;refine r_know 33 (.int .i64 (x.args.length:Nat)) rfl (by rw[h5]) ?_;refine A3 ?_;refine Rs 36 ?_ ?_<;>intro hb1
  ·have hlen:((x.args.length:Nat):Int)≠cntL x.op:=by have hh:=hb1;simpa using hh
   refine A30 ?_;refine at_end1 rfl (res_tmp rfl) (fun w hL=>⟨(),eI (by unfold nodeE;rw[if_neg hc,if_pos (.inl hlen)]),hL.pk []⟩)
  ·have hlen:((x.args.length:Nat):Int)=cntL x.op:=by have hh:=hb1;simpa using hh
   refine A15 ?_;refine r_know 51 (.string (strU x.name)) rfl (by rw[h2]) ?_;refine A1 ?_;refine r_know 52 (.bool (x.name !=[])) rfl (by rw[show(strU x.name !=⟨#[]⟩)=(strU x.name !=strU []) from rfl,bne,strU_beq];rfl) ?_;refine A5 ?_;refine Cd ?_ ?_<;>intro hb2
   ·have hnm:x.name≠[]:=by simpa using hb2
    refine A8 ?_;refine at_end1 rfl (res_tmp rfl) (fun w hL=>⟨(),eI (by unfold nodeE;rw[if_neg hc,if_pos (.inr (.inr ⟨(by rw[hop];decide),(by rw[hop];decide),hnm⟩))]),hL.pk []⟩)
   ·have hnm:x.name=[]:=by simpa using hb2
    refine A4 ?_;refine Kp 57 h1 ?_;refine A1 ?_;refine r_know 58 (.bool false) rfl (by rw[hop];rfl) ?_;refine A14 ?_;refine Kp 67 h1 ?_;refine A1 ?_;refine r_know 68 (.bool false) rfl (by rw[hop];rfl) ?_;refine A25 ?_;refine at_regionM ?_;refine A1 ?_;refine Ld 1 2 [_,_,_,_] ti27 ?_;refine Gm 0 [] [] (fun _=>[_,_]) (c_syntax_idZ z hfu) (fun idn=>?_);refine A11 ?_;refine Kp 92 h1 ?_;refine A1 ?_;refine r_know 93 (.bool true) rfl (by rw[hop];rfl) ?_;refine A6 ?_;refine Cd ?_ ?_<;>intro hb3
    ·have hid:x.num.isId=false:=by simpa using hb3
     refine A7 ?_;refine at_end1 rfl (res_tmp rfl) (fun w hL=>⟨(),eI (by unfold nodeE;rw[if_neg hc,if_neg (fun h=>by
 rcases h with h|⟨ha,hb,h⟩|⟨ha,hb,h⟩
 ·exact h hlen
 ·exact hb hop
 ·exact h hnm),if_neg (fun h=>absurd h.1 (by rw[hop];decide)),if_neg (fun h=>absurd h.1 (by rw[hop];decide)),if_pos ⟨hop,hid⟩]),hL.pk []⟩)
    ·have hid:x.num.isId=true:=by simpa using hb3
     refine A7 ?_;refine Kp 99 h1 ?_;refine A1 ?_;refine r_know 100 (.bool false) rfl (by rw[hop];rfl) ?_;refine A9 ?_;refine Kp 109 h1 ?_;refine A1 ?_;refine r_know 110 (.bool false) rfl (by rw[hop];rfl) ?_;refine A18 ?_;refine at_end1 rfl (res_tmp rfl) (fun w hL=>⟨(),eI (by unfold nodeE;rw[if_neg hc,if_neg (fun h=>by
 rcases h with h|⟨ha,hb,h⟩|⟨ha,hb,h⟩
 ·exact h hlen
 ·exact hb hop
 ·exact h hnm),if_neg (fun h=>absurd h.1 (by rw[hop];decide)),if_neg (fun h=>absurd h.1 (by rw[hop];decide)),if_neg (fun h=>by rw[hid] at h;cases h.2),if_neg (fun h=>by
 rcases h with h|h
 ·exact absurd h.1 (by rw[hop];decide)
 ·exact absurd h.1 (by rw[hop];decide))]),hL.pk []⟩)
theorem c_checkNode_4{x:XT}(z:XR x)(hfn:x.name.length≤1000000)(hfu:x.num.fit=true)(hop:x.op=4):ECall Tryz.prog 49 [gB z.T false] [z.v] Unit (fun _=> .int .i64 (nodeE x:Nat)) (fun _=>[]):=by
 refine⟨by kernel_rfl,fun B w hD hL0=>?_⟩;obtain⟨h1,h2,h3,h4,h5,h6⟩:=z.inv;have hs:=NumV.fit_cells h3 hfu
 have hcn:cntL x.op=0:=(by rw[hop];rfl);refine cB1 118 Tryz.func49 hL0 ?_;refine A2 ?_;refine Bo [_,_,_,_,_,_,_] 7 (fun g=>[_,⟨some g,30,_,7,true⟩]) (fun g0=>?_);refine A7 ?_;refine Kp 9 h1 ?_;refine Pc (c_syntax_count x.op) ?_;refine A4 ?_;refine at_drawnI [2000000] mixed (by kernel_rfl) (by kernel_rfl) ?_;refine A2 ?_;refine Kp 12 h1 ?_;refine A1 ?_;refine r_know 13 (.bool false) rfl (by rw[hop];rfl) ?_;refine A3 ?_;refine Kp 16 h1 ?_;refine A1 ?_;refine r_know 17 (.bool false) rfl (by rw[hop];rfl) ?_;refine A3 ?_;refine Kp 20 h1 ?_;refine A1 ?_;refine r_know 21 (.bool true) rfl (by rw[hop];rfl) ?_;refine A18 ?_;refine Cd ?_ ?_<;>intro hb0
 ·exfalso;have hh:=of_decide_eq_true hb0;rw[hcn] at hh;omega
 ·have hc:¬cntL x.op<0:=of_decide_eq_false hb0;refine A5 ?_;refine r_know 33 (.int .i64 (x.args.length:Nat)) rfl (by rw[h5]) ?_;refine A3 ?_;refine Rs 36 ?_ ?_<;>intro hb1
  ·have hlen:((x.args.length:Nat):Int)≠cntL x.op:=by have hh:=hb1;simpa using hh
   refine A30 ?_;refine at_end1 rfl (res_tmp rfl) (fun w hL=>⟨(),eI (by unfold nodeE;rw[if_neg hc,if_pos (.inl hlen)]),hL.pk []⟩)
  ·have hlen:((x.args.length:Nat):Int)=cntL x.op:=by have hh:=hb1;simpa using hh
   refine A4 ?_;refine Ld 1 2 [_,_,_,_] ti27 ?_;refine r_build [] rfl rfl rfl (bd27_0) ?_;refine r_neqAgg rfl rfl rfl rfl gd27 (eq27r _ _ _ _ _ _ _ _) ?_;refine r_know 43 (.bool (!x.num.isZ)) rfl (by rw[NumV.isZ_cells h3]) ?_;refine A3 ?_;refine Rs 46 ?_ ?_<;>intro hb2
   ·have hz:x.num.isZ=false:=by simpa using hb2
    refine A20 ?_;refine at_end1 rfl (res_tmp rfl) (fun w hL=>⟨(),eI (by unfold nodeE;rw[if_neg hc,if_pos (.inr (.inl ⟨(by rw[hop];decide),(by rw[hop];decide),hz⟩))]),hL.pk []⟩)
   ·have hz:x.num.isZ=true:=by simpa using hb2
    refine A16 ?_;refine Kp 57 h1 ?_;refine A1 ?_;refine r_know 58 (.bool false) rfl (by rw[hop];rfl) ?_;refine A14 ?_;refine Kp 67 h1 ?_;refine A1 ?_;refine r_know 68 (.bool false) rfl (by rw[hop];rfl) ?_;refine A25 ?_;refine at_regionM ?_;refine A1 ?_;refine Ld 1 2 [_,_,_,_] ti27 ?_;refine Gm 0 [] [] (fun _=>[_,_]) (c_syntax_idZ z hfu) (fun idn=>?_);refine A11 ?_;refine Kp 92 h1 ?_;refine A1 ?_;refine r_know 93 (.bool false) rfl (by rw[hop];rfl) ?_;refine A14 ?_;refine Kp 99 h1 ?_;refine A1 ?_;refine r_know 100 (.bool true) rfl (by rw[hop];rfl) ?_;refine A3 ?_;refine r_know 103 (.string (strU x.name)) rfl (by rw[h2]) ?_;refine Pc (c_syntax_IsName x.name hfn) ?_;refine A3 ?_;refine Rs 107 ?_ ?_<;>intro hb3
    ·have hN:nameL x.name=false:=by simpa using hb3
     refine A20 ?_;refine at_end1 rfl (res_tmp rfl) (fun w hL=>⟨(),eI (by unfold nodeE;rw[if_neg hc,if_neg (fun h=>by
 rcases h with h|⟨ha,hb,h⟩|⟨ha,hb,h⟩
 ·exact h hlen
 ·rw[hz] at h;cases h
 ·exact ha hop),if_neg (fun h=>absurd h.1 (by rw[hop];decide)),if_neg (fun h=>absurd h.1 (by rw[hop];decide)),if_neg (fun h=>absurd h.1 (by rw[hop];decide)),if_pos (.inl ⟨hop,hN⟩)]),hL.pk []⟩)
    ·have hN:nameL x.name=true:=by simpa using hb3
     refine A2 ?_;refine Kp 109 h1 ?_;refine A1 ?_;refine r_know 110 (.bool false) rfl (by rw[hop];rfl) ?_;refine A18 ?_;refine at_end1 rfl (res_tmp rfl) (fun w hL=>⟨(),eI (by unfold nodeE;rw[if_neg hc,if_neg (fun h=>by
 rcases h with h|⟨ha,hb,h⟩|⟨ha,hb,h⟩
 ·exact h hlen
 ·rw[hz] at h;cases h
 ·exact ha hop),if_neg (fun h=>absurd h.1 (by rw[hop];decide)),if_neg (fun h=>absurd h.1 (by rw[hop];decide)),if_neg (fun h=>absurd h.1 (by rw[hop];decide)),if_neg (fun h=>by
 rcases h with h|h
 ·rw[hN] at h;cases h.2
 ·exact absurd h.1 (by rw[hop];decide))]),hL.pk []⟩)
theorem c_checkNode_5{x:XT}(z:XR x)(hfn:x.name.length≤1000000)(hfu:x.num.fit=true)(hop:x.op=5):ECall Tryz.prog 49 [gB z.T false] [z.v] Unit (fun _=> .int .i64 (nodeE x:Nat)) (fun _=>[]):=by
 refine⟨by kernel_rfl,fun B w hD hL0=>?_⟩;obtain⟨h1,h2,h3,h4,h5,h6⟩:=z.inv;have hs:=NumV.fit_cells h3 hfu
 have hcn:cntL x.op=0:=(by rw[hop];rfl);refine cB1 118 Tryz.func49 hL0 ?_;refine A2 ?_;refine Bo [_,_,_,_,_,_,_] 7 (fun g=>[_,⟨some g,30,_,7,true⟩]) (fun g0=>?_);refine A7 ?_;refine Kp 9 h1 ?_;refine Pc (c_syntax_count x.op) ?_;refine A4 ?_;refine at_drawnI [2000000] mixed (by kernel_rfl) (by kernel_rfl) ?_;refine A2 ?_;refine Kp 12 h1 ?_;refine A1 ?_;refine r_know 13 (.bool false) rfl (by rw[hop];rfl) ?_;refine A3 ?_;refine Kp 16 h1 ?_;refine A1 ?_;refine r_know 17 (.bool false) rfl (by rw[hop];rfl) ?_;refine A3 ?_;refine Kp 20 h1 ?_;refine A1 ?_;refine r_know 21 (.bool false) rfl (by rw[hop];rfl) ?_;refine A3 ?_;refine Kp 24 h1 ?_;refine A1 ?_;refine r_know 25 (.bool true) rfl (by rw[hop];rfl) ?_;refine A14 ?_;refine Cd ?_ ?_<;>intro hb0
 ·exfalso;have hh:=of_decide_eq_true hb0;rw[hcn] at hh;omega
 ·have hc:¬cntL x.op<0:=of_decide_eq_false hb0;refine A5 ?_;refine r_know 33 (.int .i64 (x.args.length:Nat)) rfl (by rw[h5]) ?_;refine A3 ?_;refine Rs 36 ?_ ?_<;>intro hb1
  ·have hlen:((x.args.length:Nat):Int)≠cntL x.op:=by have hh:=hb1;simpa using hh
   refine A30 ?_;refine at_end1 rfl (res_tmp rfl) (fun w hL=>⟨(),eI (by unfold nodeE;rw[if_neg hc,if_pos (.inl hlen)]),hL.pk []⟩)
  ·have hlen:((x.args.length:Nat):Int)=cntL x.op:=by have hh:=hb1;simpa using hh
   refine A4 ?_;refine Ld 1 2 [_,_,_,_] ti27 ?_;refine r_build [] rfl rfl rfl (bd27_0) ?_;refine r_neqAgg rfl rfl rfl rfl gd27 (eq27r _ _ _ _ _ _ _ _) ?_;refine r_know 43 (.bool (!x.num.isZ)) rfl (by rw[NumV.isZ_cells h3]) ?_;refine A3 ?_;refine Rs 46 ?_ ?_<;>intro hb2
   ·have hz:x.num.isZ=false:=by simpa using hb2
    refine A20 ?_;refine at_end1 rfl (res_tmp rfl) (fun w hL=>⟨(),eI (by unfold nodeE;rw[if_neg hc,if_pos (.inr (.inl ⟨(by rw[hop];decide),(by rw[hop];decide),hz⟩))]),hL.pk []⟩)
   ·have hz:x.num.isZ=true:=by simpa using hb2
    refine A16 ?_;refine Kp 57 h1 ?_;refine A1 ?_;refine r_know 58 (.bool false) rfl (by rw[hop];rfl) ?_;refine A14 ?_;refine Kp 67 h1 ?_;refine A1 ?_;refine r_know 68 (.bool false) rfl (by rw[hop];rfl) ?_;refine A25 ?_;refine at_regionM ?_;refine A1 ?_;refine Ld 1 2 [_,_,_,_] ti27 ?_;refine Gm 0 [] [] (fun _=>[_,_]) (c_syntax_idZ z hfu) (fun idn=>?_);refine A11 ?_;refine Kp 92 h1 ?_;refine A1 ?_;refine r_know 93 (.bool false) rfl (by rw[hop];rfl) ?_;refine A14 ?_;refine Kp 99 h1 ?_;refine A1 ?_;refine r_know 100 (.bool false) rfl (by rw[hop];rfl) ?_;refine A9 ?_;refine Kp 109 h1 ?_;refine A1 ?_;refine r_know 110 (.bool true) rfl (by rw[hop];rfl) ?_;refine A3 ?_;refine r_know 113 (.string (strU x.name)) rfl (by rw[h2]) ?_;refine Pc (c_syntax_IsZone x.name hfn) ?_;refine A5 ?_;refine Cd ?_ ?_<;>intro hb3
    ·have hZ:zoneL x.name=false:=by simpa using hb3
     refine A7 ?_;refine at_end1 rfl (res_tmp rfl) (fun w hL=>⟨(),eI (by unfold nodeE;rw[if_neg hc,if_neg (fun h=>by
 rcases h with h|⟨ha,hb,h⟩|⟨ha,hb,h⟩
 ·exact h hlen
 ·rw[hz] at h;cases h
 ·exact hb hop),if_neg (fun h=>absurd h.1 (by rw[hop];decide)),if_neg (fun h=>absurd h.1 (by rw[hop];decide)),if_neg (fun h=>absurd h.1 (by rw[hop];decide)),if_pos (.inr ⟨hop,hZ⟩)]),hL.pk []⟩)
    ·have hZ:zoneL x.name=true:=by simpa using hb3
     refine A8 ?_;refine at_end1 rfl (res_tmp rfl) (fun w hL=>⟨(),eI (by unfold nodeE;rw[if_neg hc,if_neg (fun h=>by
 rcases h with h|⟨ha,hb,h⟩|⟨ha,hb,h⟩
 ·exact h hlen
 ·rw[hz] at h;cases h
 ·exact hb hop),if_neg (fun h=>absurd h.1 (by rw[hop];decide)),if_neg (fun h=>absurd h.1 (by rw[hop];decide)),if_neg (fun h=>absurd h.1 (by rw[hop];decide)),if_neg (fun h=>by
 rcases h with h|h
 ·exact absurd h.1 (by rw[hop];decide)
 ·rw[hZ] at h;cases h.2)]),hL.pk []⟩)
theorem c_checkNode_o{x:XT}(z:XR x)(hfn:x.name.length≤1000000)(hfu:x.num.fit=true)(hop1:x.op≠1)(hop2:x.op≠2)(hop3:x.op≠3)(hop4:x.op≠4)(hop5:x.op≠5):ECall Tryz.prog 49 [gB z.T false] [z.v] Unit (fun _=> .int .i64 (nodeE x:Nat)) (fun _=>[]):=by
 refine⟨by kernel_rfl,fun B w hD hL0=>?_⟩;obtain⟨h1,h2,h3,h4,h5,h6⟩:=z.inv;have hs:=NumV.fit_cells h3 hfu;refine cB1 118 Tryz.func49 hL0 ?_;refine A2 ?_;refine Bo [_,_,_,_,_,_,_] 7 (fun g=>[_,⟨some g,30,_,7,true⟩]) (fun g0=>?_);refine A7 ?_;refine Kp 9 h1 ?_;refine Pc (c_syntax_count x.op) ?_;refine A4 ?_;refine at_drawnI [2000000] mixed (by kernel_rfl) (by kernel_rfl) ?_;refine A2 ?_;refine Kp 12 h1 ?_;refine A1 ?_;refine r_know 13 (.bool false) rfl (congrArg Value.bool (by simpa using hop1)) ?_;refine A3 ?_;refine Kp 16 h1 ?_;refine A1 ?_;refine r_know 17 (.bool false) rfl (congrArg Value.bool (by simpa using hop3)) ?_;refine A3 ?_;refine Kp 20 h1 ?_;refine A1 ?_;refine r_know 21 (.bool false) rfl (congrArg Value.bool (by simpa using hop4)) ?_;refine A3 ?_;refine Kp 24 h1 ?_;refine A1 ?_;refine r_know 25 (.bool false) rfl (congrArg Value.bool (by simpa using hop5)) ?_;refine A14 ?_;refine Cd ?_ ?_<;>intro hb0
 ·have hc:cntL x.op<0:=of_decide_eq_true hb0;refine A8 ?_;refine at_end1 rfl (res_tmp rfl) (fun w hL=>⟨(),eI (by unfold nodeE;rw[if_pos hc]),hL.pk []⟩)
 ·have hc:¬cntL x.op<0:=of_decide_eq_false hb0;refine A5 ?_;refine r_know 33 (.int .i64 (x.args.length:Nat)) rfl (by rw[h5]) ?_;refine A3 ?_;refine Rs 36 ?_ ?_<;>intro hb1
  ·have hlen:((x.args.length:Nat):Int)≠cntL x.op:=by have hh:=hb1;simpa using hh
   refine A30 ?_;refine at_end1 rfl (res_tmp rfl) (fun w hL=>⟨(),eI (by unfold nodeE;rw[if_neg hc,if_pos (.inl hlen)]),hL.pk []⟩)
  ·have hlen:((x.args.length:Nat):Int)=cntL x.op:=by have hh:=hb1;simpa using hh
   refine A4 ?_;refine Ld 1 2 [_,_,_,_] ti27 ?_;refine r_build [] rfl rfl rfl (bd27_0) ?_;refine r_neqAgg rfl rfl rfl rfl gd27 (eq27r _ _ _ _ _ _ _ _) ?_;refine r_know 43 (.bool (!x.num.isZ)) rfl (by rw[NumV.isZ_cells h3]) ?_;refine A3 ?_;refine Rs 46 ?_ ?_<;>intro hb2
   ·have hz:x.num.isZ=false:=by simpa using hb2
    refine A20 ?_;refine at_end1 rfl (res_tmp rfl) (fun w hL=>⟨(),eI (by unfold nodeE;rw[if_neg hc,if_pos (.inr (.inl ⟨hop1,hop3,hz⟩))]),hL.pk []⟩)
   ·have hz:x.num.isZ=true:=by simpa using hb2
    refine A5 ?_;refine r_know 51 (.string (strU x.name)) rfl (by rw[h2]) ?_;refine A1 ?_;refine r_know 52 (.bool (x.name !=[])) rfl (by rw[show(strU x.name !=⟨#[]⟩)=(strU x.name !=strU []) from rfl,bne,strU_beq];rfl) ?_;refine A5 ?_;refine Cd ?_ ?_<;>intro hb3
    ·have hnm:x.name≠[]:=by simpa using hb3
     refine A8 ?_;refine at_end1 rfl (res_tmp rfl) (fun w hL=>⟨(),eI (by unfold nodeE;rw[if_neg hc,if_pos (.inr (.inr ⟨hop4,hop5,hnm⟩))]),hL.pk []⟩)
    ·have hnm:x.name=[]:=by simpa using hb3
     refine A4 ?_;refine Kp 57 h1 ?_;refine A1 ?_;refine r_know 58 (.bool false) rfl (congrArg Value.bool (by simpa using hop1)) ?_;refine A14 ?_;refine Kp 67 h1 ?_;refine A1 ?_;refine r_know 68 (.bool false) rfl (congrArg Value.bool (by simpa using hop2)) ?_;refine A25 ?_;refine at_regionM ?_;refine A1 ?_;refine Ld 1 2 [_,_,_,_] ti27 ?_;refine Gm 0 [] [] (fun _=>[_,_]) (c_syntax_idZ z hfu) (fun idn=>?_);refine A11 ?_;refine Kp 92 h1 ?_;refine A1 ?_;refine r_know 93 (.bool false) rfl (congrArg Value.bool (by simpa using hop3)) ?_;refine A14 ?_;refine Kp 99 h1 ?_;refine A1 ?_;refine r_know 100 (.bool false) rfl (congrArg Value.bool (by simpa using hop4)) ?_;refine A9 ?_;refine Kp 109 h1 ?_;refine A1 ?_;refine r_know 110 (.bool false) rfl (congrArg Value.bool (by simpa using hop5)) ?_;refine A18 ?_;refine at_end1 rfl (res_tmp rfl) (fun w hL=>⟨(),eI (by unfold nodeE;rw[if_neg hc,if_neg (fun h=>by
 rcases h with h|⟨ha,hb,h⟩|⟨ha,hb,h⟩
 ·exact h hlen
 ·rw[hz] at h;cases h
 ·exact h hnm),if_neg (fun h=>absurd h.1 hop1),if_neg (fun h=>absurd h.1 hop2),if_neg (fun h=>absurd h.1 hop3),if_neg (fun h=>by
 rcases h with h|h
 ·exact absurd h.1 hop4
 ·exact absurd h.1 hop5)]),hL.pk []⟩)
theorem c_checkNode{x:XT}(z:XR x)(hfn:x.name.length≤1000000)(hfu:x.num.fit=true):ECall Tryz.prog 49 [gB z.T false] [z.v] Unit (fun _=> .int .i64 (nodeE x:Nat)) (fun _=>[]):=by
 by_cases h1:x.op=1
 ·exact c_checkNode_1 z hfn hfu h1
 by_cases h2:x.op=2
 ·exact c_checkNode_2 z hfn hfu h2
 by_cases h3:x.op=3
 ·exact c_checkNode_3 z hfn hfu h3
 by_cases h4:x.op=4
 ·exact c_checkNode_4 z hfn hfu h4
 by_cases h5:x.op=5
 ·exact c_checkNode_5 z hfn hfu h5
 exact c_checkNode_o z hfn hfu h1 h2 h3 h4 h5
abbrev VN(gv n:Nat):Blk:=⟨some gv,3,[.int .i64 (n:Nat)],1,true⟩
abbrev VF(gv gf:Nat):Blk:=⟨some gf,70,[.func (.func 48) #[] #[.pointer (some ⟨gv,0,none⟩),.pointer (some ⟨gf,0,none⟩)]],1,false⟩
def VisC(y:XT):Prop:=∀(u:XR y) (lv n gv gf:Nat),y.fit=true→
 ECall Tryz.prog 48 [VN gv n,VF gv gf,gB u.T false] [u.v,.int .i64 (lv:Nat),.pointer (some ⟨gv,0,none⟩),.pointer (some ⟨gf,0,none⟩)] Unit (fun _=> .int .i64 ((chk y lv n).1:Nat)) (fun _=>[VN gv (chk y lv n).2])
theorem c_visit_step{x:XT}(z:XR x)(hf:x.fit=true)(H:∀y:XT,y.size<x.size→VisC y)(lv n gv gf:Nat):ECall Tryz.prog 48 [VN gv n,VF gv gf,gB z.T false] [z.v,.int .i64 (lv:Nat),.pointer (some ⟨gv,0,none⟩),.pointer (some ⟨gf,0,none⟩)] Unit (fun _=> .int .i64 ((chk x lv n).1:Nat)) (fun _=>[VN gv (chk x lv n).2]):=by
 refine⟨by kernel_rfl,fun B w hD hL0=>?_⟩;obtain⟨h1,h2,h3,h4,h5,h6⟩:=z.inv;have hfp:=XT.fit_parts hf;refine cB4 40 Tryz.func48 hL0 ?_;refine A2 ?_;refine Bo [_,_,_,_,_,_,_] 7 (fun g=>[_,_,_,⟨some g,30,_,7,true⟩]) (fun g0=>?_);refine A12 ?_;refine Cd ?_ ?_<;>intro hb0
 ·have hn:256≤n:=(by have:=of_decide_eq_true hb0;omega);refine A8 ?_;refine at_end1 rfl (res_tmp rfl) (fun w hL=>by
 have e:chk x lv n=(3,n):=(by rw[chk_eq,if_pos hn]);rw[e];exact⟨(),rfl,hL.pk [some 0]⟩)
 ·have hn:¬256≤n:=(by have:=of_decide_eq_false hb0;omega);refine A7 ?_;refine Cd ?_ ?_<;>intro hb1
  ·have hl:32<lv:=(by have:=of_decide_eq_true hb1;omega);refine A8 ?_;refine at_end1 rfl (res_tmp rfl) (fun w hL=>by
 have e:chk x lv n=(33,n):=(by rw[chk_eq,if_neg hn,if_pos hl]);rw[e];exact⟨(),rfl,hL.pk [some 0]⟩)
  ·have hl:¬32<lv:=(by have:=of_decide_eq_false hb1;omega);refine A6 ?_;refine Ar (((n+1:Nat):Int)) ?_;refine So 0 0 [⟨some gv,3,_,1,true⟩,_,_,_] [_] ?_;refine A4 ?_;refine at_regionM ?_;refine Ld 3 0 [_,_,_,_,_,_,_] ti30 ?_;refine Kr 19 (z.v) ?_;refine Gm 0 [] [2] (fun _=>[_,_,_,_]) (c_checkNode z hfp.1 hfp.2.1) (fun _=>?_);refine A9 ?_;refine Cd ?_ ?_<;>intro hb2
   ·have he:nodeE x≠0:=by have:=id hb2;simpa using this
    refine A8 ?_;refine at_end1 rfl (res_tmp rfl) (fun w hL=>by
 have e:chk x lv n=(nodeE x,n+1):=(by rw[chk_eq,if_neg hn,if_neg hl,if_pos he]);rw[e];exact⟨(),rfl,hL.pk [some 0]⟩)
   ·have he:nodeE x=0:=by have:=id hb2;simpa using this
    have hal:=nodeE_len he;refine A12 ?_;refine El (ι:={q:Nat×Nat // q.1≤x.args.length∧chks x.args (lv+1) (n+1)=chks (x.args.drop q.1) (lv+1) q.2}) (fun⟨⟨i,m⟩,hi,hI⟩=>([(1,.int .i64 (lv:Nat)),(2,.pointer (some ⟨gv,0,none⟩)),(3,.pointer (some ⟨gf,0,none⟩)),(25,.slice z.a z.n z.cap),(26,.int .i64 (z.n:Nat)),(27,.int .i64 (i:Nat))],[VN gv m,VF gv gf,gB z.T false],x.args.length-i)) ⟨(0,n+1),Nat.zero_le _,rfl⟩ ?_ (hL:=Weak.auto);rintro⟨⟨i,m⟩,hi,hI⟩;(try dsimp only);dsimp only at hi hI;refine A6 ?_;refine Cd ?_ ?_<;>intro hb4
    ·have hlt:i<x.args.length:=by have:=of_decide_eq_true hb4;omega
     obtain⟨y,hy⟩:∃y,x.args[i]? =some y:=⟨x.args[i],List.getElem?_eq_getElem hlt⟩;obtain⟨ga,oa,ca,u,hza,hma,hra,hTa,hna⟩:=z.arg hy;have hfy:y.fit=true:=XT.fits_get hfp.2.2 hy;refine A6 ?_;refine r_indexAddrG (gg:=ga) (len:=z.n) (cap:=z.cap) (oa+i*7) u28 ti30 rfl rfl (congrArg (fun a=>some (Value.slice a z.n z.cap)) hza) rfl (by omega) (by omega) (by show oa+Int.toNat _*7=_;omega) ?_;refine r_loadT (v:=u.v) 2 (oa+i*7) u.cs rfl rfl rfl z.hT hma hna rfl ti30 hra rfl rfl rfl ?_;refine r_alloc [_,_,_,_,_,_,_] 7 (fun g=>[_,_,_,⟨some g,30,_,7,true⟩]) rfl rfl z30 rfl rfl (fun _=>rfl) (fun g1=>?_);refine So 3 0 [_,_,_,⟨some g1,30,_,7,true⟩] [_,_,_,_,_,_,_] ?_;refine A3 ?_;refine at_regionM ?_;refine A1 ?_;refine Ld 3 0 [_,_,_,_,_,_,_] ti30 ?_;refine Kr 32 (u.v) ?_;refine A1 ?_;refine Ar (((lv+1:Nat):Int)) ?_;refine r_gfcallM (f:=48) (A:=[VN gv m]) (C:=[VF gv gf,gB z.T false]) [u.v,.int .i64 (lv+1:Nat)] [.pointer (some ⟨gv,0,none⟩),.pointer (some ⟨gf,0,none⟩)] [0] [1,2] (fun _=>[VN gv (chk y (lv+1) m).2,_,_,_]) rfl rfl rfl rfl rfl (by have h:=H y (XT.arg_lt hy) u (lv+1) m gv gf hfy;rw[hTa] at h;exact h) (by decide) rfl rfl ⟨⟨_,rfl,Blk.le_refl _⟩,⟨_,rfl,Blk.le_refl _⟩,trivial⟩ rfl rfl (fun _=>rfl) (fun _=>allOwn rfl) (fun _=>rfl) (fun _=>?_);refine A9 ?_;refine Cd ?_ ?_<;>intro hb5
     ·have hey:(chk y (lv+1) m).1≠0:=by simpa using hb5
      refine A12 ?_;refine at_end1 rfl (res_tmp rfl) (fun w hL=>by
 have e:chk x lv n=chk y (lv+1) m:=(by rw[chk_eq,if_neg hn,if_neg hl,if_neg (by omega),hI,chks_step hy,if_pos hey]);rw[e];exact⟨(),rfl,hL.pk [some 0]⟩)
     ·have hey:(chk y (lv+1) m).1=0:=by simpa using hb5
      refine A4 ?_;refine Ar (((i+1:Nat):Int)) ?_;refine A3 ?_;exact Nl ⟨(i+1,(chk y (lv+1) m).2),hlt,by rw[hI,chks_step hy,if_neg (by omega)]⟩ (hL:=Weak.auto)
    ·have hge:i=x.args.length:=by have:=of_decide_eq_false hb4;omega
     refine A11 ?_;refine at_end1 rfl (res_tmp rfl) (fun w hL=>by
 have e:chk x lv n=(0,m):=(by rw[chk_eq,if_neg hn,if_neg hl,if_neg (by omega),hI,hge,List.drop_length,chks]);rw[e];exact⟨(),rfl,hL.pk [some 0]⟩)
theorem c_visit(x:XT):VisC x:=by
 suffices h:∀k:Nat,∀x:XT,x.size<k→VisC x from h _ x (Nat.lt_succ_self _)
 intro k
 induction k with
 |zero=>intro x h;omega
 |succ k ih=>exact fun x hx u lv n gv gf hf=>c_visit_step u hf (fun y hy=>ih y (by omega)) lv n gv gf
theorem c_CheckExpr{x:XT}(z:XR x)(hf:x.fit=true):ECall Tryz.prog 18 [gB z.T false] [z.v] Unit (fun _=> .int .i64 (chkE x:Nat)) (fun _=>[]):=by
 refine⟨by kernel_rfl,fun B w hD hL0=>?_⟩;refine cB1 9 Tryz.func18 hL0 ?_;refine A2 ?_;refine Bo [_,_,_,_,_,_,_] 7 (fun g=>[_,⟨some g,30,_,7,true⟩]) (fun g0=>?_);refine A5 ?_;refine r_alloc [_] 1 (fun g=>[_,_,⟨some g,3,_,1,true⟩]) rfl rfl z3 rfl rfl (fun _=>rfl) (fun g1=>?_);refine So 2 0 [_,_,⟨some g1,3,_,1,true⟩] [_] ?_;refine A4 ?_;refine r_alloc [_] 1 (fun g=>[_,_,_,⟨some g,70,_,1,true⟩]) rfl rfl z70 rfl rfl (fun _=>rfl) (fun g2=>?_);refine A4 ?_;refine r_makeFunc2 rfl rfl rfl rfl ?_;refine So 3 0 [_,_,_,⟨some g2,70,_,1,true⟩] [_] ?_;refine A3 ?_;refine at_regionM ?_;refine A1 ?_;refine Ld 1 0 [_,_,_,_,_,_,_] ti30 ?_;refine Kr 7 (z.v) ?_;refine r_gfcallM (f:=48) (A:=[VN g1 0]) (C:=[VF g1 g2,gB z.T false]) [z.v,.int .i64 (1:Nat)] [.pointer (some ⟨g1,0,none⟩),.pointer (some ⟨g2,0,none⟩)] [2] [3,0] (fun _=>[_,_,VN g1 (chk x 1 0).2,_]) rfl rfl rfl rfl rfl (c_visit x z 1 0 g1 g2 hf) (by decide) rfl rfl ⟨⟨_,rfl,le_share⟩,⟨_,rfl,Blk.le_refl _⟩,trivial⟩ rfl rfl (fun _=>rfl) (fun _=>allOwn rfl) (fun _=>rfl) (fun _=>?_);refine A4 ?_;refine E1 fun w hL=>⟨(),rfl,hL.pk []⟩
end Go.Proofs.YtfijbadahkmhbaaGreatDoor
namespace Go.Via
open Go Go.RowKit Go.Sort Go.Proofs
theorem LRel.rowMod{B:Bs}{w w':World}{L:List Blk}(h:LRel B L w){k:Nat}{b:Blk}(hk:L[k]? =some b)(ho:b.own=true){g:Nat}(hg:b.base=some g)(hn0:b.n≠0)(f:Array Value→Array Value)(cs':List Value)
 (hf:∀cur:Array Value,cur.size=b.n→cur.toList.take b.cs.length=b.cs→(f cur).size=b.n∧(f cur).toList.take cs'.length=cs')
 (h1:w'.os=w.os)(h2:w'.tape=w.tape)(h3:w'.output=w.output)(h4:w.heap.size≤w'.heap.size)(h5:∀i,i<w.heap.size→i≠g→w'.heap[i]? =w.heap[i]?)
 (h6:∀cur:Array Value,w.heap[g]? =some (.cells cur b.e (0,0))→w'.heap[g]? =some (.cells (f cur) b.e (0,0))):LRel B (L.set k {b with cs:=cs'}) w':=by
 obtain⟨cur,⟨e',fr,a1,a2,_⟩,a3,a4⟩:=((h.blk k b hk).1 g hg).cells (.inl hn0)
 obtain⟨rfl,rfl⟩:=a2 ho
 obtain⟨b1,b2⟩:=hf cur a3 a4
 have hs:=h.set hk ho hg (f cur) cs' b1 b2
 have hh:=setRow_heap w g cur (f cur) b.e (0,0) a1
 have hsz:(w.setRow g (f cur)).heap.size=w.heap.size:=by simp
 refine hs.same ⟨h1,h2,h3,by rw[hsz];exact h4,fun i hi=>?_⟩
 rw[hsz] at hi
 by_cases e:i=g
 ·subst e;rw[h6 cur a1,hh]
 ·rw[h5 i hi e,setRow_other w g i _ e]
def SB(l:List Bs8):List Value:=l.map fun s=> .string (strU s)
theorem SB_length(l:List Bs8):(SB l).length=l.length:=by simp[SB]
abbrev SBk(b:Option Nat)(l:List Bs8)(n:Nat):Blk:=⟨b,9,SB l,n,true⟩
theorem SB_get{l:List Bs8}{i:Nat}{s:Bs8}(h:l[i]? =some s):((SB l).drop (i*1)).take 1=[.string (strU s)]:=by
 obtain⟨hl,rfl⟩:=List.getElem?_eq_some_iff.1 h
 rw[Nat.mul_one]
 unfold SB
 rw[←List.map_drop,List.drop_eq_getElem_cons hl]
 rfl
theorem SB_append(a b:List Bs8):SB (a++b)=SB a++SB b:=by simp[SB]
theorem LRel.strs{B:Bs}{w:World}{L:List Blk}(h:LRel B L w){k:Nat}{g e n:Nat}{l:List Bs8}{pre:List Value}{o:Bool}(hk:L[k]? =some ⟨some g,e,pre++SB l,n,o⟩){j:Nat}{s:Bs8}(hj:l[j]? =some s):w.cell? ⟨g,pre.length+j,none⟩=some (.string (strU s)):=by
 have hj2:(pre++SB l)[pre.length+j]? =some (.string (strU s)):=by
  rw[List.getElem?_append_right (by omega),Nat.add_sub_cancel_left]
  unfold SB;rw[List.getElem?_map,hj];rfl
 obtain⟨g',hg',h2⟩:=h.cell (k:=k) hk hj2
 cases hg'
 exact h2
theorem LRel.loose{B:Bs}{w:World}{L:List Blk}(h:LRel B L w){k:Nat}{b:Blk}(hk:L[k]? =some b)(ho:b.own=true){g:Nat}(hg:b.base=some g)(hn0:b.n≠0)(j:Nat):w.frozen? ⟨g,j,none⟩=false:=by
 obtain⟨cur,⟨e',fr,a1,a2,_⟩,a3,a4⟩:=((h.blk k b hk).1 g hg).cells (.inl hn0)
 obtain⟨rfl,rfl⟩:=a2 ho
 simp[World.frozen?,a1]
theorem putCells_ok{d:List Bs8}{cur:Array Value}(h:d.length≤cur.size):(putCells encStr 0 d.toArray cur).size=cur.size∧(putCells encStr 0 d.toArray cur).toList.take (SB d).length=SB d:=by
 refine⟨by simp[putCells],?_⟩
 apply List.ext_getElem?
 intro i
 rw[SB_length,List.getElem?_take]
 split
 ·rename_i hi
  unfold SB
  rw[List.getElem?_map,List.getElem?_eq_getElem hi,Array.getElem?_toList]
  unfold putCells
  rw[Array.getElem?_mapIdx,Array.getElem?_eq_getElem (by omega)]
  simp only[Option.map_some,Nat.zero_le,true_and,List.size_toArray,Nat.zero_add,hi,if_true,Nat.sub_zero]
  rw[getElem!_pos d.toArray i (by simpa using hi)]
  rfl
 ·rename_i hi
  unfold SB
  rw[List.getElem?_map,List.getElem?_eq_none (by omega)]
  rfl
theorem LRel.putRow{B:Bs}{w:World}{L:List Blk}(h:LRel B L w){k g n m:Nat}{l l':List Bs8}{os:Array Obj}(hk:L[k]? =some (SBk (some g) l n))(hl:l'.length≤n)(hn0:n≠0):
 LRel B (L.set k (SBk (some g) l' n)) (grow (putRow encStr (Sort.ahead w m) g 0 l'.toArray) os):=by
 have hlt:=h.lt hk rfl
 have e1:(grow (Go.Sort.putRow encStr (Sort.ahead w m) g 0 l'.toArray) os).heap=(w.heap.modify g (onCells (putCells encStr 0 l'.toArray)))++os:=rfl
 refine h.rowMod hk rfl rfl hn0 (putCells encStr 0 l'.toArray) (SB l') (fun cur hc _=>by
 have hc':cur.size=n:=hc
 obtain⟨p1,p2⟩:=putCells_ok (d:=l') (cur:=cur) (by omega)
 exact⟨p1.trans hc,p2⟩) rfl rfl rfl (by rw[e1];simp) (fun i hi hne=>?_) (fun cur hcur=>?_)
 ·rw[e1,Array.getElem?_append_left (by simpa using hi),Array.getElem?_modify,if_neg (fun e=>hne e.symm)]
 ·rw[e1,Array.getElem?_append_left (by simpa using hlt),Array.getElem?_modify,if_pos rfl,hcur]
  rfl
end Go.Via
namespace Go.Via
open Go Go.RowKit
theorem XT.size_eq(x:XT):x.size=1+XT.sizes x.args:=by cases x;rw[XT.size];rfl
theorem XT.sizes_drop{l:List XT}{i:Nat}{y:XT}(h:l[i]? =some y):XT.sizes (l.drop i)=y.size+XT.sizes (l.drop (i+1)):=by
 obtain⟨hl,rfl⟩:=List.getElem?_eq_some_iff.1 h
 rw[List.drop_eq_getElem_cons hl,XT.sizes]
theorem XT.len_sizes:∀l:List XT,l.length≤XT.sizes l
 |[]=>Nat.zero_le _
 |x::l=>by
  have:=XT.len_sizes l
  have:=x.size_pos
  rw[XT.sizes,List.length_cons];omega
section
variable(st:XT→Nat→Nat→Nat)
mutual
def foldN:XT→Nat→Nat→Nat
 | .mk o nm u l,lv,n=>foldsN l (lv+1) (st (.mk o nm u l) lv n)
def foldsN:List XT→Nat→Nat→Nat
 |[],_,n=>n
 |x::l,lv,n=>foldsN l lv (foldN x lv n)
end
theorem foldN_eq(x:XT)(lv n:Nat):foldN st x lv n=foldsN st x.args (lv+1) (st x lv n):=by cases x;rw[foldN];rfl
theorem foldsN_step{l:List XT}{i:Nat}{y:XT}(h:l[i]? =some y)(lv n:Nat):foldsN st (l.drop i) lv n=foldsN st (l.drop (i+1)) lv (foldN st y lv n):=by
 obtain⟨hl,rfl⟩:=List.getElem?_eq_some_iff.1 h
 rw[List.drop_eq_getElem_cons hl,foldsN]
mutual
theorem foldN_le(hst:∀y lv n,st y lv n≤max n lv+1):∀(x:XT) (lv n:Nat),foldN st x lv n≤max n lv+x.size
 | .mk o nm u l,lv,n=>by
  rw[foldN,XT.size]
  have h1:=foldsN_le hst l (lv+1) (st (.mk o nm u l) lv n)
  have h2:=hst (.mk o nm u l) lv n
  omega
theorem foldsN_le(hst:∀y lv n,st y lv n≤max n lv+1):∀(l:List XT) (lv n:Nat),foldsN st l lv n≤max n lv+XT.sizes l
 |[],lv,n=>by rw[foldsN,XT.sizes];omega
 |x::l,lv,n=>by
  rw[foldsN,XT.sizes]
  have h1:=foldsN_le hst l lv (foldN st x lv n)
  have h2:=foldN_le hst x lv n
  omega
end
end
mutual
def varsL:XT→List Bs8
 | .mk o nm u l=>(if o=4 then[nm] else[])++varsLs l
def varsLs:List XT→List Bs8
 |[]=>[]
 |x::l=>varsL x++varsLs l
end
theorem varsL_eq(x:XT):varsL x=(if x.op=4 then[x.name] else[])++varsLs x.args:=by cases x;rw[varsL];rfl
theorem varsLs_step{l:List XT}{i:Nat}{y:XT}(h:l[i]? =some y):varsLs (l.drop i)=varsL y++varsLs (l.drop (i+1)):=by
 obtain⟨hl,rfl⟩:=List.getElem?_eq_some_iff.1 h
 rw[List.drop_eq_getElem_cons hl,varsLs]
mutual
theorem varsL_len:∀x:XT,(varsL x).length≤x.size
 | .mk o nm u l=>by
  rw[varsL,XT.size,List.length_append]
  have:=varsLs_len l
  split<;>simp<;>omega
theorem varsLs_len:∀l:List XT,(varsLs l).length≤XT.sizes l
 |[]=>by rw[varsLs];exact Nat.zero_le _
 |x::l=>by
  rw[varsLs,XT.sizes,List.length_append]
  have:=varsL_len x
  have:=varsLs_len l
  omega
end
structure SRw(l:List Bs8) where
 b:Option Nat
 n:Nat
 cap:Nat
 h1:l.length≤cap
 h2:cap≤n
abbrev VV(gv:Nat){l:List Bs8}(s:SRw l):Blk:=⟨some gv,36,[slv s.b 0 l.length s.cap],1,true⟩
abbrev VR{l:List Bs8}(s:SRw l):Blk:=SBk s.b l s.n
def SRw.cast{l m:List Bs8}(h:l=m)(s:SRw l):SRw m:=⟨s.b,s.n,s.cap,by rw[←h];exact s.h1,s.h2⟩
theorem SRw.cast_blk{l m:List Bs8}(h:l=m)(s:SRw l)(gv:Nat):[VV gv (s.cast h),VR (s.cast h)]=[VV gv s,VR s]:=by subst h;rfl
def SRw.add{l:List Bs8}(x:Bs8)(r:AR (l.length+1) 1):SRw (l++[x]):=⟨some r.g,r.n,r.cap,by rw[List.length_append];exact r.h,by have:=r.hn;omega⟩
end Go.Via
namespace Go.Proofs
open Go.Shelf
def Tryz.lays190_ren:Go.Shelf.Ren:=⟨fun|190=>55|125=>92|258=>91|128=>120|129=>121|302=>111|303=>112|304=>113|305=>114|306=>115|307=>116|308=>117|309=>118|310=>119|333=>146|329=>147|330=>148|334=>149|335=>150|336=>151|344=>165|n=>n,fun|31=>36|9=>9|3=>3|46=>123|0=>0|51=>161|53=>163|4=>4|183=>154|182=>153|131=>119|5=>5|218=>189|222=>69|228=>205|229=>206|n=>n,fun|n=>n⟩
theorem Tryz.lays190:Go.Proofs.Lays.n190 Tryz.prog Tryz.lays190_ren:={
 mixed:=by kernel_rfl
 f125:=Tryz.func92.trans (congrArg some (by kernel_rfl))
 f128:=Tryz.func120.trans (congrArg some (by kernel_rfl))
 f129:=Tryz.func121.trans (congrArg some (by kernel_rfl))
 f190:=Tryz.func55.trans (congrArg some (by kernel_rfl))
 f258:=Tryz.func91.trans (congrArg some (by kernel_rfl))
 f302:=Tryz.func111.trans (congrArg some (by kernel_rfl))
 f303:=Tryz.func112.trans (congrArg some (by kernel_rfl))
 f304:=Tryz.func113.trans (congrArg some (by kernel_rfl))
 f305:=Tryz.func114.trans (congrArg some (by kernel_rfl))
 f306:=Tryz.func115.trans (congrArg some (by kernel_rfl))
 f307:=Tryz.func116.trans (congrArg some (by kernel_rfl))
 f308:=Tryz.func117.trans (congrArg some (by kernel_rfl))
 f309:=Tryz.func118.trans (congrArg some (by kernel_rfl))
 f310:=Tryz.func119.trans (congrArg some (by kernel_rfl))
 f329:=Tryz.func147.trans (congrArg some (by kernel_rfl))
 f330:=Tryz.func148.trans (congrArg some (by kernel_rfl))
 f333:=Tryz.func146.trans (congrArg some (by kernel_rfl))
 f334:=Tryz.func149.trans (congrArg some (by kernel_rfl))
 f335:=Tryz.func150.trans (congrArg some (by kernel_rfl))
 f336:=Tryz.func151.trans (congrArg some (by kernel_rfl))
 f344:=Tryz.func165.trans (congrArg some (by kernel_rfl))
 t0:=Tryz.underlying0
 a0:=Tryz.isAgg0
 z0:=Tryz.sizeOf0
 v0:=Tryz.zeroValue0
 t3:=Tryz.underlying3
 a3:=Tryz.isAgg3
 z3:=Tryz.sizeOf3
 v3:=Tryz.zeroValue3
 t4:=Tryz.underlying4
 a4:=Tryz.isAgg4
 z4:=Tryz.sizeOf4
 v4:=Tryz.zeroValue4
 t5:=Tryz.underlying5
 a5:=Tryz.isAgg5
 z5:=Tryz.sizeOf5
 v5:=Tryz.zeroValue5
 t9:=Tryz.underlying9
 a9:=Tryz.isAgg9
 z9:=Tryz.sizeOf9
 v9:=Tryz.zeroValue9
 t31:=Tryz.underlying36
 a31:=Tryz.isAgg36
 z31:=Tryz.sizeOf36
 v31:=Tryz.zeroValue36
 t46:=Tryz.underlying123
 a46:=Tryz.isAgg123
 z46:=Tryz.sizeOf123
 v46:=Tryz.zeroValue123
 t51:=Tryz.underlying161
 a51:=Tryz.isAgg161
 z51:=Tryz.sizeOf161
 v51:=Tryz.zeroValue161
 t53:=Tryz.underlying163
 a53:=Tryz.isAgg163
 z53:=Tryz.sizeOf163
 v53:=Tryz.zeroValue163
 t131:=Tryz.underlying119
 a131:=Tryz.isAgg119
 z131:=Tryz.sizeOf119
 v131:=Tryz.zeroValue119
 t182:=Tryz.underlying153
 a182:=Tryz.isAgg153
 z182:=Tryz.sizeOf153
 v182:=Tryz.zeroValue153
 t183:=Tryz.underlying154
 a183:=Tryz.isAgg154
 z183:=Tryz.sizeOf154
 v183:=Tryz.zeroValue154
 t218:=Tryz.underlying189
 a218:=Tryz.isAgg189
 z218:=Tryz.sizeOf189
 v218:=Tryz.zeroValue189
 t222:=Tryz.underlying69
 a222:=Tryz.isAgg69
 z222:=Tryz.sizeOf69
 v222:=Tryz.zeroValue69
 t228:=Tryz.underlying205
 a228:=Tryz.isAgg205
 z228:=Tryz.sizeOf205
 v228:=Tryz.zeroValue205
 t229:=Tryz.underlying206
 a229:=Tryz.isAgg206
 z229:=Tryz.sizeOf206
 v229:=Tryz.zeroValue206}
open Go.Sort Go.RowKit in
theorem Tryz.slices_Sort_string(blk off cap:Nat)(ss:List (List UInt8))(w:World)(hH:Holds encStr w blk off ss.toArray)(hblk:blk<w.heap.size)(hsz:ss.length<4611686018427387904):
 Calls Tryz.prog 55 #[.slice (some ⟨blk,off,none⟩) ss.length cap] w fun e w'=>
  e= .returned (.tuple #[])∧∃n os,w'=grow (putRow encStr (Sort.ahead w n) blk off (ss.mergeSort fun x y=>decide (x≤y)).toArray) os:=Any.slices_Sort_string Tryz.lays190 blk off cap ss w hH hblk hsz
def Tryz.lays110_ren:Go.Shelf.Ren:=⟨fun|110=>60|109=>98|n=>n,fun|31=>36|9=>9|4=>4|3=>3|0=>0|n=>n,fun|n=>n⟩
theorem Tryz.lays110:Go.Proofs.Lays.n110 Tryz.prog Tryz.lays110_ren:={
 mixed:=by kernel_rfl
 f109:=Tryz.func98.trans (congrArg some (by kernel_rfl))
 f110:=Tryz.func60.trans (congrArg some (by kernel_rfl))
 t0:=Tryz.underlying0
 a0:=Tryz.isAgg0
 z0:=Tryz.sizeOf0
 v0:=Tryz.zeroValue0
 t3:=Tryz.underlying3
 a3:=Tryz.isAgg3
 z3:=Tryz.sizeOf3
 v3:=Tryz.zeroValue3
 t4:=Tryz.underlying4
 a4:=Tryz.isAgg4
 z4:=Tryz.sizeOf4
 v4:=Tryz.zeroValue4
 t9:=Tryz.underlying9
 a9:=Tryz.isAgg9
 z9:=Tryz.sizeOf9
 v9:=Tryz.zeroValue9
 t31:=Tryz.underlying36
 a31:=Tryz.isAgg36
 z31:=Tryz.sizeOf36
 v31:=Tryz.zeroValue36}
open Go.Lib in
theorem Tryz.slices_Contains_string(b off n c:Nat)(zs:List ByteArray)(x:ByteArray)(w:World)(hz:n≤zs.length)(hbig:n≤9223372036854775807)(hc:∀j,j<zs.length→w.cell? ⟨b,off+j,none⟩=some (.string (zs.getD j ByteArray.empty))):
 Calls Tryz.prog 60 #[.slice (some ⟨b,off,none⟩) n c,.string x] w fun e w'=>e= .returned (.bool (Lib.containsS (zs.take n) x))∧w'=w:=Any.slices_Contains_string Tryz.lays110 b off n c zs x w hz hbig hc
open Go.Lib in
theorem Tryz.slices_Contains_string_empty(a:Option Addr)(c:Nat)(x:ByteArray)(w:World):
 Calls Tryz.prog 60 #[.slice a 0 c,.string x] w fun e w'=>e= .returned (.bool false)∧w'=w:=Any.slices_Contains_string_empty Tryz.lays110 a c x w
def Tryz.lays194_ren:Go.Shelf.Ren:=⟨fun|194=>56|n=>n,fun|31=>36|9=>9|3=>3|4=>4|0=>0|n=>n,fun|n=>n⟩
theorem Tryz.lays194:Go.Proofs.Lays.n194 Tryz.prog Tryz.lays194_ren:={
 mixed:=by kernel_rfl
 f194:=Tryz.func56.trans (congrArg some (by kernel_rfl))
 t0:=Tryz.underlying0
 a0:=Tryz.isAgg0
 z0:=Tryz.sizeOf0
 v0:=Tryz.zeroValue0
 t3:=Tryz.underlying3
 a3:=Tryz.isAgg3
 z3:=Tryz.sizeOf3
 v3:=Tryz.zeroValue3
 t4:=Tryz.underlying4
 a4:=Tryz.isAgg4
 z4:=Tryz.sizeOf4
 v4:=Tryz.zeroValue4
 t9:=Tryz.underlying9
 a9:=Tryz.isAgg9
 z9:=Tryz.sizeOf9
 v9:=Tryz.zeroValue9
 t31:=Tryz.underlying36
 a31:=Tryz.isAgg36
 z31:=Tryz.sizeOf36
 v31:=Tryz.zeroValue36}
open Go.RowKit Go.Lib Go.Sort in
theorem Tryz.slices_Compact_string(blk off cap:Nat)(zs:List (List UInt8))(w:World)(hH:Holds encStr w blk off zs.toArray)(hsz:zs.length≤9223372036854775807)(hcap:zs.length≤cap):
 Calls Tryz.prog 56 #[.slice (some ⟨blk,off,none⟩) zs.length cap] w fun e w'=>e= .returned (.slice (some ⟨blk,off,none⟩) (Lib.compact zs).length cap)∧∃q,w'=putRow encStr (Sort.ahead w q) blk off (Lib.compact zs++List.replicate (zs.length-(Lib.compact zs).length) []).toArray:=Any.slices_Compact_string Tryz.lays194 blk off cap zs w hH hsz hcap
open Go.RowKit Go.Lib Go.Sort in
theorem Tryz.slices_Compact_string_empty(a:Option Addr)(cap:Nat)(w:World):
 Calls Tryz.prog 56 #[.slice a 0 cap] w fun e w'=>e= .returned (.slice a 0 cap)∧w'=w:=Any.slices_Compact_string_empty Tryz.lays194 a cap w
open Go.RowKit Go.Sort in
theorem Tryz.slices_Sort_string_none(p:Option Addr)(cap:Nat)(w:World):
 Calls Tryz.prog 55 #[.slice p 0 cap] w fun e w'=>e= .returned (.tuple #[])∧w'=w:=Any.slices_Sort_string_none Tryz.lays190 p cap w
end Go.Proofs
namespace Go.Proofs.YtfijbadahkmhbaaGreatDoor
open Go Go.RowKit Go.Sort Go.Via
def sortL(l:List Bs8):List Bs8:=l.mergeSort fun x y=>decide (x≤y)
theorem SBk_holds{B:Bs}{w:World}{L:List Blk}(h:LRel B L w){k g n:Nat}{l:List Bs8}(hk:L[k]? =some (SBk (some g) l n))(hn0:n≠0):Holds encStr w g 0 l.toArray:=fun j hj=>by
 have hj':j<l.length:=by simpa using hj
 have h1:=h.strs (pre:=[]) (s:=l[j]) (k:=k) hk (List.getElem?_eq_getElem hj')
 refine⟨?_,h.loose hk rfl rfl hn0 _⟩
 rw[getElem!_pos l.toArray j hj]
 exact h1
theorem c_Sort(b:Option Nat)(l:List Bs8)(n cap:Nat)(hl:l.length≤1000000)(hn:l.length≤n):ECall Tryz.prog 55 [SBk b l n] [slv b 0 l.length cap] Unit (fun _=> .tuple #[]) (fun _=>[SBk b (sortL l) n]):=by
 refine⟨by kernel_rfl,fun B w hD hL=>?_⟩
 by_cases h0:l=[]
 ·subst h0
  have h1:=Tryz.slices_Sort_string_none (b.map fun g=>⟨g,0,none⟩) cap w
  refine Calls.mono h1 ?_
  rintro e w' ⟨rfl,rfl⟩
  have e0:sortL []=[]:=by simp[sortL]
  refine⟨(),rfl,?_⟩
  show LRel B [SBk b (sortL []) n] _
  rw[e0]
  exact hL
 ·cases b with
  |none=>
   have h2:=((hL.blk 0 _ rfl).2 rfl).1
   exact absurd (List.eq_nil_of_length_eq_zero (by have:=congrArg List.length h2;rwa [SB_length] at this)) h0
  |some g=>
   have hn0:n≠0:=by have:=List.length_pos_iff.2 h0;omega
   have h1:=Tryz.slices_Sort_string g 0 cap l w (SBk_holds (k:=0) hL rfl hn0) (hL.lt (k:=0) rfl rfl) (by omega)
   refine Calls.mono h1 ?_
   rintro e w' ⟨rfl,m,os,rfl⟩
   exact⟨(),rfl,hL.putRow (k:=0) rfl (by unfold sortL;rw[List.length_mergeSort];exact hn) hn0⟩
theorem compact_le(l:List Bs8):(Lib.compact l).length≤l.length:=by
 unfold Lib.compact Lib.compactUpTo
 rw[List.length_map]
 exact Nat.le_trans (List.length_filter_le _ _) (by simp)
theorem c_Compact(b:Option Nat)(l:List Bs8)(n cap:Nat)(hl:l.length≤1000000)(hn:cap≤n)(hcap:l.length≤cap):ECall Tryz.prog 56 [SBk b l n] [slv b 0 l.length cap] Unit (fun _=>slv b 0 (Lib.compact l).length cap) (fun _=>[SBk b (Lib.compact l) n]):=by
 refine⟨by kernel_rfl,fun B w hD hL=>?_⟩
 by_cases h0:l=[]
 ·subst h0
  have h1:=Tryz.slices_Compact_string_empty (b.map fun g=>⟨g,0,none⟩) cap w
  refine Calls.mono h1 ?_
  rintro e w' ⟨rfl,rfl⟩
  exact⟨(),rfl,hL⟩
 ·cases b with
  |none=>
   have h2:=((hL.blk 0 _ rfl).2 rfl).1
   exact absurd (List.eq_nil_of_length_eq_zero (by have:=congrArg List.length h2;rwa [SB_length] at this)) h0
  |some g=>
   have hn0:n≠0:=by have:=List.length_pos_iff.2 h0;omega
   have h1:=Tryz.slices_Compact_string g 0 cap l w (SBk_holds (k:=0) hL rfl hn0) (by omega) hcap
   refine Calls.mono h1 ?_
   rintro e w' ⟨rfl,m,rfl⟩
   refine⟨(),rfl,?_⟩
   have hc:=compact_le l
   have h2:=hL.putRow (k:=0) (m:=m) (os:= #[]) (l':=Lib.compact l++List.replicate (l.length-(Lib.compact l).length) []) rfl (by rw[List.length_append,List.length_replicate];omega) hn0
   rw[grow_empty] at h2
   exact h2.picks [some 0] ⟨⟨_,rfl,⟨rfl,rfl,rfl,⟨(Lib.compact l).length,by
 show SB (Lib.compact l)=List.take _ (SB (_++_))
 rw[SB_append];exact(List.take_left' (SB_length _)).symm⟩,id⟩⟩,trivial⟩ rfl rfl
abbrev VBk(b:Option Nat)(e:Nat)(pre:List Value)(l:List Bs8)(n:Nat):Blk:=⟨b,e,pre++SB l,n,false⟩
theorem c_Contains(b:Option Nat)(e:Nat)(pre:List Value)(l:List Bs8)(n cap:Nat)(hl:l.length≤1000000)(s:Bs8):
 SCall Tryz.prog 60 [VBk b e pre l n] [.slice (b.map fun g=>⟨g,pre.length,none⟩) l.length cap,.string (strU s)] Unit (fun _=> .bool (l.contains s)) (fun _=>[]):=by
 refine⟨by kernel_rfl,fun w hL=>?_⟩
 by_cases h0:l=[]
 ·subst h0
  have h1:=Tryz.slices_Contains_string_empty (b.map fun g=>⟨g,pre.length,none⟩) cap (strU s) w
  refine Calls.mono h1 ?_
  rintro e w' ⟨rfl,rfl⟩
  exact⟨(),rfl,hL.picks [] trivial rfl rfl⟩
 ·cases b with
  |none=>
   have h2:=((hL.blk 0 _ rfl).2 rfl).1
   have h3:=congrArg List.length h2
   rw[List.length_append,SB_length] at h3
   exact absurd (List.eq_nil_of_length_eq_zero (by simp at h3;simp[h3.2])) h0
  |some g=>
   have h1:=Tryz.slices_Contains_string g pre.length l.length cap (l.map strU) (strU s) w (by simp) (by omega) (fun j hj=>by
 have hj':j<l.length:=by simpa using hj
 rw[hL.strs (k:=0) (s:=l[j]) rfl (List.getElem?_eq_getElem hj')]
 rw[List.getD_eq_getElem?_getD,List.getElem?_map,List.getElem?_eq_getElem hj']
 rfl)
   refine Calls.mono h1 ?_
   rintro e w' ⟨rfl,rfl⟩
   refine⟨(),?_,hL.picks [] trivial rfl rfl⟩
   have h5:Lib.containsS ((l.map strU).take l.length) (strU s)=l.contains s:=by
    rw[Bool.eq_iff_iff,Lib.containsS_iff,List.take_of_length_le (by simp),List.mem_map,List.contains_iff_mem]
    constructor
    ·rintro⟨a,ha,hb⟩
     rw[←strU_inj hb];exact ha
    ·exact fun h=>⟨s,h,rfl⟩
   rw[h5]
end Go.Proofs.YtfijbadahkmhbaaGreatDoor
namespace Go.Proofs.YtfijbadahkmhbaaGreatDoor
open Go Go.RowKit Go.Via
def EachN(fn:Nat)(stp:XT→Nat→Nat→Nat)(gv:Nat)(y:XT):Prop:=∀(u:XR y) (lv n:Nat),max n lv+y.size≤1099511627776→
 ECall Tryz.prog 51 [VN gv n,gB u.T false] [u.v,.int .i64 (lv:Nat),.func (.func fn) #[] #[.pointer (some ⟨gv,0,none⟩)]] Unit (fun _=> .tuple #[]) (fun _=>[VN gv (foldN stp y lv n)])
theorem c_each_step{x:XT}(z:XR x)(fn:Nat)(stp:XT→Nat→Nat→Nat)(hst:∀y lv n,stp y lv n≤max n lv+1)(gv:Nat)(hf:∀{y:XT} (u:XR y) (lv n:Nat),lv≤1099511627776→n≤1099511627776→ECall Tryz.prog fn [VN gv n] [u.v,.int .i64 (lv:Nat),.pointer (some ⟨gv,0,none⟩)] Unit (fun _=> .tuple #[]) (fun _=>[VN gv (stp y lv n)]))(H:∀y:XT,y.size<x.size→EachN fn stp gv y)(lv n:Nat)(hM:max n lv+x.size≤1099511627776):ECall Tryz.prog 51 [VN gv n,gB z.T false] [z.v,.int .i64 (lv:Nat),.func (.func fn) #[] #[.pointer (some ⟨gv,0,none⟩)]] Unit (fun _=> .tuple #[]) (fun _=>[VN gv (foldN stp x lv n)]):=by
 refine⟨by kernel_rfl,fun B w hD hL0=>?_⟩;obtain⟨h1,h2,h3,h4,h5,h6⟩:=z.inv;have hsz:=x.size_eq;have hal:=XT.len_sizes x.args;have hst1:=hst x lv n;refine cB3 25 Tryz.func51 hL0 ?_;refine A2 ?_;refine Bo [_,_,_,_,_,_,_] 7 (fun g=>[_,_,⟨some g,30,_,7,true⟩]) (fun g0=>?_);refine A3 ?_;refine at_regionM ?_;refine A1 ?_;refine Ld 2 0 [_,_,_,_,_,_,_] ti30 ?_;refine Kr 9 (z.v) ?_;refine A1 ?_;refine r_gfcallM (f:=fn) (A:=[VN gv n]) (C:=[]) [z.v,.int .i64 (lv:Nat)] [.pointer (some ⟨gv,0,none⟩)] [0] [] (fun _=>[VN gv (stp x lv n),_,_]) rfl rfl rfl rfl rfl (hf z lv n (by omega) (by omega)) (by decide) rfl rfl trivial rfl rfl (fun _=>rfl) (fun _=>allOwn rfl) (fun _=>rfl) (fun _=>?_);refine A11 ?_;refine El (ι:={q:Nat×Nat // q.1≤x.args.length∧foldsN stp x.args (lv+1) (stp x lv n)=foldsN stp (x.args.drop q.1) (lv+1) q.2∧max q.2 (lv+1)+XT.sizes (x.args.drop q.1)≤1099511627776}) (fun⟨⟨i,m⟩,hi,hI,hB⟩=>([(1,.int .i64 (lv:Nat)),(2,.func (.func fn) #[] #[.pointer (some ⟨gv,0,none⟩)]),(13,.slice z.a z.n z.cap),(14,.int .i64 (z.n:Nat)),(15,.int .i64 (i:Nat))],[VN gv m,gB z.T false],x.args.length-i)) ⟨(0,stp x lv n),Nat.zero_le _,rfl,by show max (stp x lv n) (lv+1)+XT.sizes x.args≤_;omega⟩ ?_ (hL:=Weak.auto);rintro⟨⟨i,m⟩,hi,hI,hB⟩;(try dsimp only);dsimp only at hi hI hB;refine A6 ?_;refine Cd ?_ ?_<;>intro hb1
 ·have hlt:i<x.args.length:=by have:=of_decide_eq_true hb1;omega
  obtain⟨y,hy⟩:∃y,x.args[i]? =some y:=⟨x.args[i],List.getElem?_eq_getElem hlt⟩;obtain⟨ga,oa,ca,u,hza,hma,hra,hTa,hna⟩:=z.arg hy;have hsd:=XT.sizes_drop hy;refine A6 ?_;refine r_indexAddrG (gg:=ga) (len:=z.n) (cap:=z.cap) (oa+i*7) u28 ti30 rfl rfl (congrArg (fun a=>some (Value.slice a z.n z.cap)) hza) rfl (by omega) (by omega) (by show oa+Int.toNat _*7=_;omega) ?_;refine r_loadT (v:=u.v) 1 (oa+i*7) u.cs rfl rfl rfl z.hT hma hna rfl ti30 hra rfl rfl rfl ?_;refine r_alloc [_,_,_,_,_,_,_] 7 (fun g=>[_,_,⟨some g,30,_,7,true⟩]) rfl rfl z30 rfl rfl (fun _=>rfl) (fun g1=>?_);refine So 2 0 [_,_,⟨some g1,30,_,7,true⟩] [_,_,_,_,_,_,_] ?_;refine A2 ?_;refine at_regionM ?_;refine Ld 2 0 [_,_,_,_,_,_,_] ti30 ?_;refine Kr 19 (u.v) ?_;refine A1 ?_;refine Ar (((lv+1:Nat):Int)) ?_;refine A1 ?_;refine Gm 1 [0] [1] (fun _=>[VN gv (foldN stp y (lv+1) m),_,_]) (by have h:=H y (XT.arg_lt hy) u (lv+1) m (by omega);rw[hTa] at h;exact h) (fun _=>?_);refine A4 ?_;refine Ar (((i+1:Nat):Int)) ?_;refine A3 ?_;exact Nl ⟨(i+1,foldN stp y (lv+1) m),hlt,by rw[hI,foldsN_step stp hy],by have:=foldN_le stp hst y (lv+1) m;show max (foldN stp y (lv+1) m) (lv+1)+XT.sizes (x.args.drop (i+1))≤_;omega⟩ (hL:=Weak.auto)
 ·have hge:i=x.args.length:=by have:=of_decide_eq_false hb1;omega
  refine A4 ?_
  refine at_end0n rfl (fun w hL=>by
 have e:foldN stp x lv n=m:=(by rw[foldN_eq,hI,hge,List.drop_length,foldsN]);rw[e];exact⟨(),rfl,hL.pk [some 0]⟩)
theorem c_Size_1{x:XT}(z:XR x)(lv n gv:Nat)(hlv:lv≤1099511627776)(hn:n≤1099511627776):ECall Tryz.prog 52 [VN gv n] [z.v,.int .i64 (lv:Nat),.pointer (some ⟨gv,0,none⟩)] Unit (fun _=> .tuple #[]) (fun _=>[VN gv (n+1)]):=by
 refine⟨by kernel_rfl,fun B w hD hL0=>?_⟩;refine cB3 7 Tryz.func52 hL0 ?_;refine A2 ?_;refine Bo [_,_,_,_,_,_,_] 7 (fun g=>[_,⟨some g,30,_,7,true⟩]) (fun g0=>?_);refine A4 ?_;refine Ar (((n+1:Nat):Int)) ?_;refine So 0 0 [⟨some gv,3,_,1,true⟩,_] [_] ?_;refine A1 ?_
 refine at_end0n rfl (fun w hL=>⟨(),rfl,hL.pk [some 0]⟩)
theorem c_Depth_1{x:XT}(z:XR x)(lv n gv:Nat)(hlv:lv≤1099511627776)(hn:n≤1099511627776):ECall Tryz.prog 53 [VN gv n] [z.v,.int .i64 (lv:Nat),.pointer (some ⟨gv,0,none⟩)] Unit (fun _=> .tuple #[]) (fun _=>[VN gv (max n lv)]):=by
 refine⟨by kernel_rfl,fun B w hD hL0=>?_⟩;refine cB3 8 Tryz.func53 hL0 ?_;refine A2 ?_;refine Bo [_,_,_,_,_,_,_] 7 (fun g=>[_,⟨some g,30,_,7,true⟩]) (fun g0=>?_);refine A5 ?_;refine r_maxI rfl rfl rfl rfl ?_;refine r_know 7 (.int .i64 (max n lv:Nat)) rfl (congrArg (Value.int .i64) (by omega)) ?_;refine So 0 0 [⟨some gv,3,_,1,true⟩,_] [_] ?_;refine A1 ?_
 refine at_end0n rfl (fun w hL=>⟨(),rfl,hL.pk [some 0]⟩)
theorem c_each(fn:Nat)(stp:XT→Nat→Nat→Nat)(hst:∀y lv n,stp y lv n≤max n lv+1)(gv:Nat)(hf:∀{y:XT} (u:XR y) (lv n:Nat),lv≤1099511627776→n≤1099511627776→ECall Tryz.prog fn [VN gv n] [u.v,.int .i64 (lv:Nat),.pointer (some ⟨gv,0,none⟩)] Unit (fun _=> .tuple #[]) (fun _=>[VN gv (stp y lv n)]))(x:XT):EachN fn stp gv x:=by
 suffices h:∀k:Nat,∀x:XT,x.size<k→EachN fn stp gv x from h _ x (Nat.lt_succ_self _)
 intro k
 induction k with
 |zero=>intro x h;omega
 |succ k ih=>exact fun x hx u lv n hM=>c_each_step u fn stp hst gv hf (fun y hy=>ih y (by omega)) lv n hM
end Go.Proofs.YtfijbadahkmhbaaGreatDoor
namespace Go.Via
open Go Go.RowKit
theorem at_weakL{B:Bs}{nt:Nat}{t:List (Nat×Value)}{L L':List Blk}{Q:Act→World→Prop}(h:Weak L L')(k:At B ⟨nt,t,L'⟩ Q):At B ⟨nt,t,L⟩ Q:=fun a w hr=>k a w ⟨hr.df,hr.size,hr.tmp,h _ _ hr.mem⟩
def SRw.zero:SRw []:=⟨none,0,0,Nat.le_refl _,Nat.le_refl _⟩
theorem SRw.add_blk{l:List Bs8}(x:Bs8)(r:AR (l.length+1) 1)(s:SRw l)(gv:Nat){M:List Blk}{B:Bs}{w:World}
 (h:LRel B ([⟨some gv,36,[slv (some r.g) 0 (l.length+1) r.cap],1,true⟩,⟨some r.g,9,SB l++[.string (strU x)],r.n,true⟩]++M) w):LRel B [VV gv (SRw.add x r),VR (SRw.add x r)] w:=by
 have h1:=LRel.take h
 show LRel B [⟨some gv,36,[slv (some r.g) 0 (l++[x]).length r.cap],1,true⟩,⟨some r.g,9,SB (l++[x]),r.n,true⟩] w
 rw[SB_append,List.length_append]
 exact h1
end Go.Via
namespace Go.Proofs.YtfijbadahkmhbaaGreatDoor
open Go Go.RowKit Go.Via
def EachV(gv:Nat)(y:XT):Prop:=∀(u:XR y) (lv:Nat) (l:List Bs8) (s:SRw l),l.length+y.size≤1000000000→lv+y.size≤1099511627776→
 ECall Tryz.prog 51 [VV gv s,VR s,gB u.T false] [u.v,.int .i64 (lv:Nat),.func (.func 54) #[] #[.pointer (some ⟨gv,0,none⟩)]] (SRw (l++varsL y)) (fun _=> .tuple #[]) (fun s1=>[VV gv s1,VR s1])
def varsU(x:XT):List Bs8:=Lib.compact (sortL (varsL x))
theorem sortL_len(l:List Bs8):(sortL l).length=l.length:=by unfold sortL;rw[List.length_mergeSort]
end Go.Proofs.YtfijbadahkmhbaaGreatDoor
namespace Go.Via
open Go Go.RowKit
def dchar(n:Nat):UInt8:=UInt8.ofNat (48+n%10)
theorem dchar_nat(n:Nat):(dchar n).toNat=48+n%10:=by
 unfold dchar
 rw[UInt8.toNat_ofNat']
 omega
theorem dchar_zero{n:Nat}:dchar n=48↔n%10=0:=by
 rw[←UInt8.toNat_inj,dchar_nat]
 show 48+n%10=48↔_
 omega
def ldig:Nat→Nat→Bs8
 |0,_=>[]
 |k+1,n=>dchar n::ldig k (n/10)
theorem ldig_len:∀(k n:Nat),(ldig k n).length=k
 |0,_=>rfl
 |k+1,n=>by rw[ldig,List.length_cons,ldig_len]
theorem ldig_add:∀(a b n:Nat),ldig (a+b) n=ldig a n++ldig b (n/10^a)
 |0,b,n=>by simp[ldig]
 |a+1,b,n=>by
  rw[show a+1+b=(a+b)+1 by omega,ldig,ldig,ldig_add a b,List.cons_append,Nat.div_div_eq_div_mul,Nat.pow_succ,Nat.mul_comm (10^a) 10]
theorem ldig_snoc(k n:Nat):ldig (k+1) n=ldig k n++[dchar (n/10^k)]:=by
 rw[ldig_add];rfl
theorem ldig_mod:∀(k n:Nat),ldig k (n%10^k)=ldig k n
 |0,n=>rfl
 |k+1,n=>by
  rw[ldig,ldig,←ldig_mod k (n/10)]
  have h1:n%10^(k+1)/10=n/10%10^k:=by
   rw[Nat.pow_succ,Nat.mul_comm,Nat.mod_mul_right_div_self]
  have h2:n%10^(k+1)%10=n%10:=by
   rw[Nat.pow_succ,Nat.mul_comm,Nat.mod_mul_right_mod]
  rw[h1]
  congr 1
  unfold dchar
  rw[h2]
def stripT:Bs8→Bs8
 |[]=>[]
 |d::l=>match stripT l with
  |[]=>if d=48 then[] else[d]
  |x::m=>d::x::m
theorem stripT_zero:∀l:Bs8,stripT (l++[48])=stripT l
 |[]=>rfl
 |d::l=>by
  rw[List.cons_append,stripT,stripT,stripT_zero l]
theorem stripT_full{c:UInt8}(h:c≠48):∀l:Bs8,stripT (l++[c])=l++[c]
 |[]=>by simp[stripT,h]
 |d::l=>by
  rw[List.cons_append,stripT,stripT_full h l]
  cases l<;>rfl
def decR:Nat→Nat→Bs8
 |0,_=>[]
 |f+1,n=>if n=0 then[] else dchar n::decR f (n/10)
theorem decR_nil{f n:Nat}(h:n<10^f):decR f n=[]↔n=0:=by
 cases f with
 |zero=>simp[decR];simpa using h
 |succ f=>
  rw[decR]
  by_cases h0:n=0
  ·simp[h0]
  ·simp[h0]
theorem decR_eq:∀(f g n:Nat),n<10^f→n<10^g→decR f n=decR g n
 |0,g,n,h,h'=>by
  have:n=0:=by simpa using h
  subst this
  cases g<;>simp[decR]
 |f+1,0,n,h,h'=>by
  have:n=0:=by simpa using h'
  subst this
  simp[decR]
 |f+1,g+1,n,h,h'=>by
  rw[decR,decR]
  split
  ·rfl
  ·rw[decR_eq f g (n/10) (by rw[Nat.pow_succ] at h;omega) (by rw[Nat.pow_succ] at h';omega)]
theorem stripT_ldig:∀(K n:Nat),n<10^K→stripT (ldig K n)=decR K n
 |0,n,h=>rfl
 |K+1,n,h=>by
  have h1:n/10<10^K:=by rw[Nat.pow_succ] at h;omega
  rw[ldig,stripT,stripT_ldig K (n/10) h1,decR]
  cases hq:decR K (n/10) with
  |nil=>
   have h2:=(decR_nil h1).1 hq
   by_cases h0:n=0
   ·subst h0;rfl
   ·rw[if_neg h0]
    dsimp only
    rw[if_neg (fun e=>by have:=dchar_zero.1 e;omega)]
  |cons x m=>
   have h0:n≠0:=fun e=>by
    rw[(decR_nil h1).2 (by rw[e])] at hq
    cases hq
   rw[if_neg h0]
theorem lt_pow10(n:Nat):n<10^n:=Nat.lt_pow_self (by decide)
def decS(n:Nat):Bs8:=if n=0 then[48] else(decR n n).reverse
def intS(z:Int):Bs8:=if z<0 then 45::decS z.natAbs else decS z.natAbs
def ratS(q:Rat):Bs8:=if q.den=1 then intS q.num else intS q.num++47::intS (q.den:Int)
theorem strip_decS{K n:Nat}(h:n<10^K)(h0:n≠0):(stripT (ldig K n)).reverse=decS n:=by
 unfold decS
 rw[if_neg h0,stripT_ldig K n h,decR_eq K n n h (lt_pow10 n)]
def RevI(l c:Bs8)(i:Nat):Prop:=c.length=l.length∧∀j,j<l.length→c[j]? =if j<i∨l.length-1-i<j then l[l.length-1-j]? else l[j]?
theorem RevI.zero(l:Bs8):RevI l l 0:=⟨rfl,fun j hj=>by rw[if_neg (by omega)]⟩
theorem RevI.done{l c:Bs8}{i:Nat}(h:RevI l c i)(hi:l.length≤2*i+1):c=l.reverse:=by
 apply List.ext_getElem?
 intro j
 by_cases hj:j<l.length
 ·rw[h.2 j hj,List.getElem?_reverse hj]
  by_cases hc:j<i∨l.length-1-i<j
  ·rw[if_pos hc]
  ·rw[if_neg hc]
   congr 1
   omega
 ·rw[List.getElem?_eq_none (by rw[h.1];omega),List.getElem?_eq_none (by simp;omega)]
theorem RevI.step{l c:Bs8}{i:Nat}{a b:UInt8}(h:RevI l c i)(hi:2*i+1<l.length)(ha:c[i]? =some a)(hb:c[l.length-1-i]? =some b):RevI l ((c.set i b).set (l.length-1-i) a) (i+1):=by
 refine⟨by simp[h.1],fun j hj=>?_⟩
 have e1:=h.2 i (by omega)
 have e2:=h.2 (l.length-1-i) (by omega)
 rw[if_neg (by omega)] at e1 e2
 rw[ha] at e1
 rw[hb] at e2
 by_cases h1:j=l.length-1-i
 ·subst h1
  rw[List.getElem?_set_self (by simp[h.1];omega),if_pos (by omega)]
  rw[e1];congr 1;omega
 ·rw[List.getElem?_set_ne (fun e=>h1 e.symm)]
  by_cases h2:j=i
  ·subst h2
   rw[List.getElem?_set_self (by rw[h.1];omega),if_pos (by omega),e2]
  ·rw[List.getElem?_set_ne (fun e=>h2 e.symm),h.2 j hj]
   by_cases hc:j<i∨l.length-1-i<j
   ·rw[if_pos hc,if_pos (by omega)]
   ·rw[if_neg hc,if_neg (by omega)]
theorem NB_get{l:Bs8}{i:Nat}{c:UInt8}(h:l[i]? =some c):(NB l)[i]? =some (.int .u8 (c.toNat:Nat)):=by
 unfold NB;rw[List.getElem?_map,h];rfl
theorem NB_set(l:Bs8)(i:Nat)(c:UInt8):(NB l).set i (.int .u8 (c.toNat:Nat))=NB (l.set i c):=by
 unfold NB;rw[List.map_set]
theorem NB_take(l:Bs8)(i:Nat):(NB l).take i=NB (l.take i):=by
 unfold NB;rw[List.map_take]
theorem pw10_nb{N a:Nat}(h:10^a≤N):a≤3*nb N:=by
 rw[←Nat.not_lt]
 intro h2
 have h3:N<256^nb N:=lt_nb N
 have h4:256^nb N≤1000^nb N:=Nat.pow_le_pow_left (by decide) _
 have h5:(1000:Nat)^nb N=10^(3*nb N):=by rw[Nat.pow_mul]
 have h6:(10:Nat)^(3*nb N)≤10^a:=Nat.pow_le_pow_right (by decide) (by omega)
 omega
theorem quo32{x y:Int}(m n:Nat)(hx:x=(m:Int))(hy:y=(n:Int))(h:m/n<4294967296):IntKind.u32.wrap (x.tdiv y)=((m/n:Nat):Int):=by
 subst hx;subst hy;rw[←Int.ofNat_tdiv,IntKind.wrap_u32];generalize m/n=q at*;omega
theorem decS_ne{n:Nat}(h:n≠0):decS n≠[]:=by
 unfold decS
 rw[if_neg h]
 intro e
 have:=List.reverse_eq_nil_iff.1 e
 exact h ((decR_nil (lt_pow10 n)).1 this)
structure PrS(N:Nat) where
 k:Nat
 cx:Nat
 b:Option Nat
 n:Nat
 cap:Nat
 hx:(digs B32 (N/10^(9*k))).length≤cx
 h1:9*k≤cap
 h2:cap≤n
 hk:9*k≤3*nb N+9
structure PrJ(K:Nat) where
 j:Nat
 b:Option Nat
 n:Nat
 cap:Nat
 hj:j≤9
 h1:K+j≤cap
 h2:cap≤n
theorem pr_zero(N:Nat):N/10^(9*0)=N:=by simp
theorem pr_next(N k:Nat):ldig (9*k) N++ldig 9 (N/10^(9*k)%1000000000)=ldig (9*(k+1)) N:=by
 rw[show(1000000000:Nat)=10^9 from rfl,ldig_mod,show 9*(k+1)=9*k+9 by omega,ldig_add]
theorem pr_div(N k:Nat):N/10^(9*k)/1000000000=N/10^(9*(k+1)):=by
 rw[Nat.div_div_eq_div_mul,show 9*(k+1)=9*k+9 by omega,Nat.pow_add]
theorem pr_row{N k:Nat}:NV .u32 (digs B32 (N/10^(9*(k+1))))=(NV .u32 (row (digs B32 (N/10^(9*k))).length (shoQ (N/10^(9*k)) 1000000000))).take (digs B32 (N/10^(9*(k+1)))).length:=by
 have h:=trim_take B32_two (l:=row (digs B32 (N/10^(9*k))).length (shoQ (N/10^(9*k)) 1000000000)) (row_lt fun j=>B32_mod _)
 rw[shoQ_val,pr_div] at h
 rw[NV_take,h]
theorem at_some{B:Bs}{nt:Nat}{t:List (Nat×Value)}{L:List Blk}{Q:Act→World→Prop}(k:Nat){b:Option Nat}{e n:Nat}{cs:List Value}{o:Bool}(hk:L[k]? =some ⟨b,e,cs,n,o⟩)(hcs:cs≠[])(h:b.isSome=true→At B ⟨nt,t,L⟩ Q):At B ⟨nt,t,L⟩ Q:=fun a w hr=>h (by
 cases b with
 |none=>exact absurd ((hr.mem.blk k _ hk).2 rfl).1 hcs
 |some g=>rfl) a w hr
theorem strip_step{l:Bs8}{j:Nat}{c:UInt8}(h:l[j]? =some c):l.take (j+1)=l.take j++[c]:=by rw[List.take_add_one,h];rfl
theorem strN_NB(l:Bs8):NB l=NV .u8 (l.map UInt8.toNat):=by
 unfold NB NV
 rw[List.map_map];rfl
theorem strN_U(l:Bs8):strN (l.map UInt8.toNat)=strU l:=by
 unfold strN strU
 rw[List.map_map]
 congr 2
 rw[show(UInt8.ofNat∘UInt8.toNat)=id from funext fun x=>by simp]
 simp
end Go.Via
