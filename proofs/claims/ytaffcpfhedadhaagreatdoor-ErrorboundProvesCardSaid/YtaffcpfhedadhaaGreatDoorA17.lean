/-
  Part 17 (chapter 32): lemmas, walks. Each theorem states its own conditions.
-/
import Derived.Test.YtaffcpfhedadhaaGreatDoorA05
import Derived.Test.YtaffcpfhedadhaaGreatDoorA06
import Derived.Test.YtaffcpfhedadhaaGreatDoorA08
import Derived.Test.YtaffcpfhedadhaaGreatDoorA11
import Derived.Test.YtaffcpfhedadhaaGreatDoorA13
import Derived.Test.YtaffcpfhedadhaaGreatDoorA14
import Derived.Test.YtaffcpfhedadhaaGreatDoorA15
import Derived.Test.YtaffcpfhedadhaaGreatDoorA16
set_option linter.all false
set_option maxRecDepth 20000
set_option maxHeartbeats 20000000
namespace Go.Proofs.YtaffcpfhedadhaaGreatDoor
open Go Go.RowKit Go.Via
def Lt(ta xa ya tb xb yb ch:Nat)(hta:ta<256)(hxa:xa<256)(hya:ya<256)(htb:tb<256)(hxb:xb<256)(hyb:yb<256)(hch:ch<256)(a:List sV)(ab:Option Nat)(pa:List Value)(aN ac:Nat)(hac:a.length<=ac)(ha6:a.length<=6)(has:∀s∈a,YT s)(b:List sV)(bb:Option Nat)(pb:List Value)(bN bc:Nat)(hbc:b.length<=bc)(hb6:b.length<=6)(hbs:∀s∈b,YT s):dh Tryz.prog 13 [⟨ab,86,pa++ah kQ a,aN,false⟩,⟨bb,86,pb++ah kQ b,bN,false⟩] [.agg #[.int .u8 (ta:Nat),.int .u8 (xa:Nat),.int .u8 (ya:Nat),az ab pa.length a.length ac,.int .u8 (tb:Nat),.int .u8 (xb:Nat),.int .u8 (yb:Nat),az bb pb.length b.length bc,.int .u8 (ch:Nat)]] (SR (iF ta xa ya a).length×SR (qI ta xa ya a tb xb yb b ch).length) (fun z=> .tuple #[z.1.v,z.2.v]) (fun z=>[⟨z.1.b,100,ah aQ (iF ta xa ya a),z.1.n,true⟩,⟨z.2.b,100,ah aQ (qI ta xa ya a tb xb yb b ch),z.2.n,true⟩]):=by
 refine Md 65 Tryz.func13 fun w hL0=>?_;refine A2 ?_;refine Bp 9 (fun g0=>?_);refine A7 ?_;refine L4 2 4 ?_;refine Al 4 z24 (fun g1=>?_);refine Ss 3 ?_;refine A7 ?_;refine(Dv ((ch%4:Nat):Int)) (congrArg some (eY _ _ rfl rfl)) ?_;refine A3 ?_;refine Cd ?_ ?_<;>intro hb0
 ·have hch:0<ch%4:=by have e:=of_decide_eq_true hb0;omega
  refine A3 ?_;refine L4 2 0 ?_;refine Ss 3 ?_;refine A3 ?_;refine rH 0 rfl (fun hba=>?_);have hab:=YX kJ (by decide) pa hba;refine A1 ?_;refine(Bl 0 []) (qgJ) (fun g2=>?_);refine A3 ?_;refine fK (s:=4) (len:=0) 4 0 (ah kQ a) (fun r=>[_,_,_,_,⟨r.b,86,ah kQ a,r.n,true⟩]) u22 qkE rfl rfl rfl rfl rfl rfl rfl rfl rfl rfl rfl (Nat.le_refl _) (Nat.le_refl _) hab (by rw[List.drop_left];exact List.take_of_length_le (by rw[kJ.length];exact Nat.le_refl _)) (kJ.length a) (kJ.ones _) (by omega) (fun _=>rfl) (fun r=>?_);obtain⟨nb,nN,nc,hnc,hnN⟩:=r;refine aT 19 (az nb 0 a.length nc) rfl (congrArg (fun z=>az nb 0 z nc) (Nat.zero_add _)) ?_;refine A1 ?_;refine Ss 3 ?_;refine zT ?_;refine Rs 26 ?_ ?_<;>intro hb1
  ·have hl0:0<a.length:=by have e:=of_decide_eq_true hb1;omega
   refine A2 ?_;refine(Dv ((ch%4:Nat):Int)) (congrArg some (eY _ _ rfl rfl)) ?_;refine A4 ?_;refine Cd ?_ ?_<;>intro hb2
   ·have hc1:1<ch%4:=by have e:=of_decide_eq_true hb2;omega
    obtain⟨k,hk⟩:∃k,k=ch/4%a.length:=⟨_,rfl⟩;have hkl:k<a.length:=hk▸Nat.mod_lt _ hl0;obtain⟨s,hx⟩:∃s,a[k]? =some s:=⟨a[k],List.getElem?_eq_getElem hkl⟩;obtain⟨hs1,hs2,hs3,hs4⟩:=has s (List.mem_of_getElem? hx);have hcA:=qfr hl0 hc1 hk hx;have hW:qI ta xa ya a tb xb yb b ch=iF ta xa ya ((a.set k ⟨s.time,(s.x+ch/16)%256,s.y,s.kind⟩).set k (FC ch s)):=(Ls hch).trans (by rw[hcA]);have hAo:∀v∈((a.set k ⟨s.time,(s.x+ch/16)%256,s.y,s.kind⟩).set k (FC ch s)),YT v:=fun v hv=>qh0 has v (by rw[hcA];exact hv)
    have hAl:((a.set k ⟨s.time,(s.x+ch/16)%256,s.y,s.kind⟩).set k (FC ch s)).length=a.length:=(by simp only[List.length_set]);refine A1 ?_;refine fD 4 rfl (kJ.ne (by decide) hl0) (fun hbs=>?_);obtain⟨gn,hgn⟩:=Option.isSome_iff_exists.1 hbs;replace hgn:nb=some gn:=hgn;subst hgn;refine Di [] ?_;refine A4 ?_;refine(Dv ((ch/4:Nat):Int)) (by exact(congrArg some (qcc _ _ (by omega) rfl rfl))) ?_;refine(Cv ((ch/4:Nat):Int) u5 u3) (by exact(wi (by omega) (by omega) rfl)) ?_;refine A1 ?_;refine(Dv (k:Int)) (congrArg some ((eY _ _ rfl rfl).trans (congrArg Nat.cast hk.symm))) ?_;refine ai 4 ((k)*4) u22 qgC rfl rfl rfl rfl rfl (by omega) (by omega) (kJ.ne (by decide) (by omega)) (by show 0+Int.toNat _*4=_;omega) ?_;refine A3 ?_;let sX:List (Nat×Value)->List (Nat×Value):=fun l=>(1,dV g0)::(4,dV g1)::l;let sY:List aG->List aG:=fun l=>⟨ab,86,pa++ah kQ a,aN,false⟩::⟨bb,86,pb++ah kQ b,bN,false⟩::⟨some g0,26,[.int .u8 (ta:Nat),.int .u8 (xa:Nat),.int .u8 (ya:Nat),az ab pa.length a.length ac,.int .u8 (tb:Nat),.int .u8 (xb:Nat),.int .u8 (yb:Nat),az bb pb.length b.length bc,.int .u8 (ch:Nat)],9,true⟩::⟨some g1,24,[.int .u8 (ta:Nat),.int .u8 (xa:Nat),.int .u8 (ya:Nat),az (some gn) 0 a.length nc],4,true⟩::l;refine Bv (nt:=65) (Z:=Unit) (fun _=>sX []) (fun _=>sY [⟨some gn,86,ah kQ ((a.set k ⟨s.time,(s.x+ch/16)%256,s.y,s.kind⟩).set k (FC ch s)),nN,true⟩]) 21 [0,1,2,3,4,5,6,7,8,9,10,11,12,13,14,15,16,17,18,19,20] mixed (by kernel_rfl) (fun hd0=>?_) ?_
    ·refine bK (nt:=65) (Z:=Unit) (fun _=>sX [(6,.pointer (some ⟨gn,k*4,none⟩)),(55,.int .u8 (((s.y+1)%256:Nat):Int)),(59,.pointer (some ⟨gn,k*4+2,none⟩))]) (fun _=>sY [⟨some gn,86,ah kQ (a.set k ⟨s.time,(s.x+ch/16)%256,s.y,s.kind⟩),nN,true⟩]) 1 [20] (fun z=>?_) (fun hd1=>?_)
     ·(try dsimp only);refine FK 20 ?_
      ·refine ry rfl 4 ((k)*4+2) [_,_,_,_,_] (ah kQ ((a.set k ⟨s.time,(s.x+ch/16)%256,s.y,s.kind⟩).set k (FC ch s))) rfl rfl rfl rfl Y2 rfl (by rw[Nat.ble_eq,kJ.length];show k*4+2+1<=(a.set k ⟨s.time,(s.x+ch/16)%256,s.y,s.kind⟩).length*4;(try simp only[List.length_set]);omega) rfl (kJ.setf (show(a.set k ⟨s.time,(s.x+ch/16)%256,s.y,s.kind⟩)[k]? =some ⟨s.time,(s.x+ch/16)%256,s.y,s.kind⟩ by rw[List.getElem?_set_self hkl]) rfl (by decide)) rfl ?_;refine A1 ?_;exact Nw hd0 () [0,1,2,3,4]
     refine bK (nt:=65) (Z:=Unit) (fun _=>sX [(6,.pointer (some ⟨gn,k*4,none⟩)),(42,.pointer (some ⟨gn,k*4,none⟩)),(50,.int .u8 (((s.x+ch/16)%256:Nat):Int)),(55,.int .u8 (((s.y+1)%256:Nat):Int)),(57,.pointer (some ⟨gn,k*4+1,none⟩))]) (fun _=>sY [⟨some gn,86,ah kQ a,nN,true⟩]) 4 [17,18,19,20] (fun z=>?_) (fun hd2=>?_)
     ·(try dsimp only);refine FK 17 ?_
      ·refine ry rfl 4 ((k)*4+1) [_,_,_,_,_] (ah kQ (a.set k ⟨s.time,(s.x+ch/16)%256,s.y,s.kind⟩)) rfl rfl rfl rfl Y2 rfl (by rw[Nat.ble_eq,kJ.length];show k*4+1+1<=(a).length*4;(try simp only[List.length_set]);omega) rfl (kJ.setf hx rfl (by decide)) rfl ?_;refine A1 ?_;refine Nt 18 ?_;refine A2 ?_;refine Nt 19 ?_;refine Fg ((k)*4) 2 ?_;refine A1 ?_;exact Nw hd1 () [0,1,2,3,4]
     refine bK (nt:=65) (Z:=Unit) (fun _=>sX [(6,.pointer (some ⟨gn,k*4,none⟩)),(41,.pointer (some ⟨gn,k*4,none⟩)),(42,.pointer (some ⟨gn,k*4,none⟩)),(45,.pointer (some ⟨gn,k*4+1,none⟩)),(49,.int .u8 ((ch/16:Nat):Int)),(55,.int .u8 (((s.y+1)%256:Nat):Int))]) (fun _=>sY [⟨some gn,86,ah kQ a,nN,true⟩]) 8 [5,9,15,16,17,18,19,20] (fun z=>?_) (fun hd3=>?_)
     ·(try dsimp only);refine FK 5 ?_
      ·refine aO (v:= .int .u8 s.x) 4 ((k)*4+1) _ rfl rfl rfl rfl Y2 (kJ.sub hx 1 1 (by decide)) rfl (by decide) rfl ?_;refine A1 ?_;refine Nt 9 ?_;refine(Aq (((s.x+ch/16)%256:Nat):Int)) (congrArg some (TK _ _ rfl rfl)) ?_;refine A1 ?_;refine Nt 15 ?_;refine A2 ?_;refine Nt 16 ?_;refine Fg ((k)*4) 1 ?_;refine A1 ?_;exact Nw hd2 () [0,1,2,3,4]
     refine bK (nt:=65) (Z:=Unit) (fun _=>sX [(6,.pointer (some ⟨gn,k*4,none⟩)),(41,.pointer (some ⟨gn,k*4,none⟩)),(42,.pointer (some ⟨gn,k*4,none⟩)),(50,.int .u8 (((s.x+ch/16)%256:Nat):Int)),(53,.pointer (some ⟨gn,k*4+2,none⟩))]) (fun _=>sY [⟨some gn,86,ah kQ a,nN,true⟩]) 8 [13,14,15,16,17,18,19,20] (fun z=>?_) (fun hd4=>?_)
     ·(try dsimp only);refine FK 13 ?_
      ·refine aO (v:= .int .u8 s.y) 4 ((k)*4+2) _ rfl rfl rfl rfl Y2 (kJ.sub hx 2 1 (by decide)) rfl (by decide) rfl ?_;refine A1 ?_;refine Nt 14 ?_;refine(Aq (((s.y+1)%256:Nat):Int)) (congrArg some (TK _ _ rfl rfl)) ?_;refine A1 ?_;refine Nt 15 ?_;refine A2 ?_;refine Nt 16 ?_;refine Fg ((k)*4) 1 ?_;refine A1 ?_;exact Nw hd2 () [0,1,2,3,4]
     refine bK (nt:=65) (Z:=Unit) (fun _=>sX [(6,.pointer (some ⟨gn,k*4,none⟩)),(41,.pointer (some ⟨gn,k*4,none⟩)),(42,.pointer (some ⟨gn,k*4,none⟩)),(46,.int .u8 ((s.x:Nat):Int)),(47,.pointer (some ⟨g0,8,none⟩)),(55,.int .u8 (((s.y+1)%256:Nat):Int))]) (fun _=>sY [⟨some gn,86,ah kQ a,nN,true⟩]) 9 [7,8,9,15,16,17,18,19,20] (fun z=>?_) (fun hd5=>?_)
     ·(try dsimp only);refine FK 7 ?_
      ·refine A2 ?_;refine Nt 8 ?_;refine(Dv ((ch/16:Nat):Int)) (by exact(congrArg some (qcc _ _ (by omega) rfl rfl))) ?_;refine A1 ?_;refine Nt 9 ?_;refine(Aq (((s.x+ch/16)%256:Nat):Int)) (congrArg some (TK _ _ rfl rfl)) ?_;refine A1 ?_;refine Nt 15 ?_;refine A2 ?_;refine Nt 16 ?_;refine Fg ((k)*4) 1 ?_;refine A1 ?_;exact Nw hd2 () [0,1,2,3,4]
     refine bK (nt:=65) (Z:=Unit) (fun _=>sX [(6,.pointer (some ⟨gn,k*4,none⟩)),(41,.pointer (some ⟨gn,k*4,none⟩)),(42,.pointer (some ⟨gn,k*4,none⟩)),(45,.pointer (some ⟨gn,k*4+1,none⟩)),(47,.pointer (some ⟨g0,8,none⟩)),(55,.int .u8 (((s.y+1)%256:Nat):Int))]) (fun _=>sY [⟨some gn,86,ah kQ a,nN,true⟩]) 10 [5,7,8,9,15,16,17,18,19,20] (fun z=>?_) (fun hd6=>?_)
     ·(try dsimp only);refine cZ [5,7] (by kernel_rfl) rfl ⟨⟨_,rfl,?_⟩,⟨_,rfl,?_⟩,trivial⟩
      ·refine aO (v:= .int .u8 s.x) 4 ((k)*4+1) _ rfl rfl rfl rfl Y2 (kJ.sub hx 1 1 (by decide)) rfl (by decide) rfl ?_;refine A1 ?_;exact Nw hd5 () [0,1,2,3,4]
      ·refine A2 ?_;refine Nt 8 ?_;refine(Dv ((ch/16:Nat):Int)) (by exact(congrArg some (qcc _ _ (by omega) rfl rfl))) ?_;refine A1 ?_;exact Nw hd3 () [0,1,2,3,4]
     refine bK (nt:=65) (Z:=Unit) (fun _=>sX [(6,.pointer (some ⟨gn,k*4,none⟩)),(41,.pointer (some ⟨gn,k*4,none⟩)),(42,.pointer (some ⟨gn,k*4,none⟩)),(45,.pointer (some ⟨gn,k*4+1,none⟩)),(49,.int .u8 ((ch/16:Nat):Int)),(53,.pointer (some ⟨gn,k*4+2,none⟩))]) (fun _=>sY [⟨some gn,86,ah kQ a,nN,true⟩]) 10 [5,9,13,14,15,16,17,18,19,20] (fun z=>?_) (fun hd7=>?_)
     ·(try dsimp only);refine cZ [5,13] (by kernel_rfl) rfl ⟨⟨_,rfl,?_⟩,⟨_,rfl,?_⟩,trivial⟩
      ·refine aO (v:= .int .u8 s.x) 4 ((k)*4+1) _ rfl rfl rfl rfl Y2 (kJ.sub hx 1 1 (by decide)) rfl (by decide) rfl ?_;refine A1 ?_;refine Nt 9 ?_;refine(Aq (((s.x+ch/16)%256:Nat):Int)) (congrArg some (TK _ _ rfl rfl)) ?_;refine A1 ?_;exact Nw hd4 () [0,1,2,3,4]
      ·refine aO (v:= .int .u8 s.y) 4 ((k)*4+2) _ rfl rfl rfl rfl Y2 (kJ.sub hx 2 1 (by decide)) rfl (by decide) rfl ?_;refine A1 ?_;refine Nt 14 ?_;refine(Aq (((s.y+1)%256:Nat):Int)) (congrArg some (TK _ _ rfl rfl)) ?_;refine A1 ?_;exact Nw hd3 () [0,1,2,3,4]
     refine bK (nt:=65) (Z:=Unit) (fun _=>sX [(6,.pointer (some ⟨gn,k*4,none⟩)),(41,.pointer (some ⟨gn,k*4,none⟩)),(42,.pointer (some ⟨gn,k*4,none⟩)),(46,.int .u8 ((s.x:Nat):Int)),(47,.pointer (some ⟨g0,8,none⟩)),(53,.pointer (some ⟨gn,k*4+2,none⟩))]) (fun _=>sY [⟨some gn,86,ah kQ a,nN,true⟩]) 11 [7,8,9,13,14,15,16,17,18,19,20] (fun z=>?_) (fun hd8=>?_)
     ·(try dsimp only);refine cZ [7,13] (by kernel_rfl) rfl ⟨⟨_,rfl,?_⟩,⟨_,rfl,?_⟩,trivial⟩
      ·refine A2 ?_;refine Nt 8 ?_;refine(Dv ((ch/16:Nat):Int)) (by exact(congrArg some (qcc _ _ (by omega) rfl rfl))) ?_;refine A1 ?_;refine Nt 9 ?_;refine(Aq (((s.x+ch/16)%256:Nat):Int)) (congrArg some (TK _ _ rfl rfl)) ?_;refine A1 ?_;exact Nw hd4 () [0,1,2,3,4]
      ·refine aO (v:= .int .u8 s.y) 4 ((k)*4+2) _ rfl rfl rfl rfl Y2 (kJ.sub hx 2 1 (by decide)) rfl (by decide) rfl ?_;refine A1 ?_;refine Nt 14 ?_;refine(Aq (((s.y+1)%256:Nat):Int)) (congrArg some (TK _ _ rfl rfl)) ?_;refine A1 ?_;exact Nw hd5 () [0,1,2,3,4]
     refine Nt 0 ?_;refine A2 ?_;refine Nt 1 ?_;refine A2 ?_;refine Nt 2 ?_;refine A2 ?_;refine Nt 3 ?_;refine A2 ?_;refine Nt 4 ?_;refine Fg ((k)*4) 1 ?_;refine A1 ?_;refine Nt 6 ?_;refine Fg 0 8 ?_;refine A1 ?_;refine Nt 10 ?_;refine A2 ?_;refine Nt 11 ?_;refine A2 ?_;refine Nt 12 ?_;refine Fg ((k)*4) 2 ?_;refine A1 ?_;refine cZ [5,7,13] (by kernel_rfl) rfl ⟨⟨_,rfl,?_⟩,⟨_,rfl,?_⟩,⟨_,rfl,?_⟩,trivial⟩
     ·refine aO (v:= .int .u8 s.x) 4 ((k)*4+1) _ rfl rfl rfl rfl Y2 (kJ.sub hx 1 1 (by decide)) rfl (by decide) rfl ?_;refine A1 ?_;exact Nw hd8 () [0,1,2,3,4]
     ·refine A2 ?_;refine Nt 8 ?_;refine(Dv ((ch/16:Nat):Int)) (by exact(congrArg some (qcc _ _ (by omega) rfl rfl))) ?_;refine A1 ?_;exact Nw hd7 () [0,1,2,3,4]
     ·refine aO (v:= .int .u8 s.y) 4 ((k)*4+2) _ rfl rfl rfl rfl Y2 (kJ.sub hx 2 1 (by decide)) rfl (by decide) rfl ?_;refine A1 ?_;refine Nt 14 ?_;refine(Aq (((s.y+1)%256:Nat):Int)) (congrArg some (TK _ _ rfl rfl)) ?_;refine A1 ?_;exact Nw hd6 () [0,1,2,3,4]
    intro _;show At _ ⟨65,[(1,dV g0),(4,dV g1)],[⟨ab,86,pa++ah kQ a,aN,false⟩,⟨bb,86,pb++ah kQ b,bN,false⟩,⟨some g0,26,[.int .u8 (ta:Nat),.int .u8 (xa:Nat),.int .u8 (ya:Nat),az ab pa.length a.length ac,.int .u8 (tb:Nat),.int .u8 (xb:Nat),.int .u8 (yb:Nat),az bb pb.length b.length bc,.int .u8 (ch:Nat)],9,true⟩,⟨some g1,24,[.int .u8 (ta:Nat),.int .u8 (xa:Nat),.int .u8 (ya:Nat),az (some gn) 0 a.length nc],4,true⟩,⟨some gn,86,ah kQ ((a.set k ⟨s.time,(s.x+ch/16)%256,s.y,s.kind⟩).set k (FC ch s)),nN,true⟩]⟩ _;refine A2 ?_;refine Dp [] [0,1,3,2,4,5,6] ?_;refine A1 ?_;refine L4 2 0 ?_;refine L4 3 0 ?_;refine(Sc [0]) (gJ ta xa ya hta hxa hya a ab pa aN ac hac ha6 has) (fun z=>?_);obtain⟨ub,uN,uc,huc⟩:=z;refine iM [_] [4] rfl rfl (by show _=[some _];rw[hAl];rfl) (gJ ta xa ya hta hxa hya ((a.set k ⟨s.time,(s.x+ch/16)%256,s.y,s.kind⟩).set k (FC ch s)) (some gn) [] nN nc (by rw[hAl];omega) (by rw[hAl];exact ha6) hAo) ⟨pS,trivial⟩ rfl (.inr fun x b hb=>by rw[List.mem_singleton.1 hb]) (fun z=>?_);obtain⟨vb,vN,vc,hvc⟩:=z;refine A5 ?_;refine bF rfl (aj rfl) (aj rfl) (fun w hL=>⟨(⟨ub,uN,uc,huc⟩,⟨vb,vN,vc,by rw[hW];exact hvc⟩),?_,hL.picks [some 5,some 6] ⟨pR,⟨_,rfl,aI (by rw[show ah aQ (qI ta xa ya a tb xb yb b ch)=_ from congrArg _ hW])⟩,trivial⟩ rfl rfl⟩);show Ending.returned (.tuple #[az ub 0 _ uc,az vb 0 _ vc])=Ending.returned (.tuple #[az ub 0 _ uc,az vb 0 (qI ta xa ya a tb xb yb b ch).length vc]);rw[hW]
   ·have hc1:¬1<ch%4:=by have e:=of_decide_eq_false hb2;omega
    have hW:qI ta xa ya a tb xb yb b ch=iF ta xa ya a:=(Ls hch).trans (by rw[qcd (fun e=>hc1 e.2)]);refine A3 ?_;refine Dp [] [0,1,3,2,4,5,6] ?_;refine A1 ?_;refine L4 2 0 ?_;refine L4 3 0 ?_;refine(Sc [0]) (gJ ta xa ya hta hxa hya a ab pa aN ac hac ha6 has) (fun z=>?_);obtain⟨ub,uN,uc,huc⟩:=z;refine(Sc [4]) (gJ ta xa ya hta hxa hya a nb [] nN nc (by omega) ha6 has) (fun z=>?_);obtain⟨vb,vN,vc,hvc⟩:=z;refine A5 ?_;refine bF rfl (aj rfl) (aj rfl) (fun w hL=>⟨(⟨ub,uN,uc,huc⟩,⟨vb,vN,vc,by rw[hW];exact hvc⟩),?_,hL.picks [some 5,some 6] ⟨pR,⟨_,rfl,aI (by rw[show ah aQ (qI ta xa ya a tb xb yb b ch)=_ from congrArg _ hW])⟩,trivial⟩ rfl rfl⟩);show Ending.returned (.tuple #[az ub 0 _ uc,az vb 0 _ vc])=Ending.returned (.tuple #[az ub 0 _ uc,az vb 0 (qI ta xa ya a tb xb yb b ch).length vc]);rw[hW]
  ·have hl0:¬0<a.length:=by have e:=of_decide_eq_false hb1;omega
   have hW:qI ta xa ya a tb xb yb b ch=iF ta xa ya a:=(Ls hch).trans (by rw[qcd (fun e=>hl0 e.1)]);refine oO ?_;refine Dp [] [0,1,3,2,4,5,6] ?_;refine A1 ?_;refine L4 2 0 ?_;refine L4 3 0 ?_;refine(Sc [0]) (gJ ta xa ya hta hxa hya a ab pa aN ac hac ha6 has) (fun z=>?_);obtain⟨ub,uN,uc,huc⟩:=z;refine(Sc [4]) (gJ ta xa ya hta hxa hya a nb [] nN nc (by omega) ha6 has) (fun z=>?_);obtain⟨vb,vN,vc,hvc⟩:=z;refine A5 ?_;refine bF rfl (aj rfl) (aj rfl) (fun w hL=>⟨(⟨ub,uN,uc,huc⟩,⟨vb,vN,vc,by rw[hW];exact hvc⟩),?_,hL.picks [some 5,some 6] ⟨pR,⟨_,rfl,aI (by rw[show ah aQ (qI ta xa ya a tb xb yb b ch)=_ from congrArg _ hW])⟩,trivial⟩ rfl rfl⟩);show Ending.returned (.tuple #[az ub 0 _ uc,az vb 0 _ vc])=Ending.returned (.tuple #[az ub 0 _ uc,az vb 0 (qI ta xa ya a tb xb yb b ch).length vc]);rw[hW]
 ·have hch:¬0<ch%4:=by have e:=of_decide_eq_false hb0;omega
  have hW:qI ta xa ya a tb xb yb b ch=iF tb xb yb b:=qfs hch;refine A3 ?_;refine Dp [] [0,1,3,2,4,5,6] ?_;refine A1 ?_;refine L4 2 0 ?_;refine L4 3 0 ?_;refine(Sc [0]) (gJ ta xa ya hta hxa hya a ab pa aN ac hac ha6 has) (fun z=>?_);obtain⟨ub,uN,uc,huc⟩:=z;refine(Sc [1]) (gJ tb xb yb htb hxb hyb b bb pb bN bc hbc hb6 hbs) (fun z=>?_);obtain⟨vb,vN,vc,hvc⟩:=z;refine A5 ?_;refine bF rfl (aj rfl) (aj rfl) (fun w hL=>⟨(⟨ub,uN,uc,huc⟩,⟨vb,vN,vc,by rw[hW];exact hvc⟩),?_,hL.picks [some 4,some 5] ⟨pR,⟨_,rfl,aI (by rw[show ah aQ (qI ta xa ya a tb xb yb b ch)=_ from congrArg _ hW])⟩,trivial⟩ rfl rfl⟩);show Ending.returned (.tuple #[az ub 0 _ uc,az vb 0 _ vc])=Ending.returned (.tuple #[az ub 0 _ uc,az vb 0 (qI ta xa ya a tb xb yb b ch).length vc]);rw[hW]
end Go.Proofs.YtaffcpfhedadhaaGreatDoor
namespace Go.Via
open Go
structure qlX(m:Int)(lo hi:Int->Int)(w u:PU):Prop where
 f:iQ w.i.f
 t:iQ w.i.t
 b:aV jE w.i.b=lo (aV jE u.i.b)
 e:aV jE w.i.e=hi (aV jE u.i.e)
 lt:aV jE w.i.b<aV jE w.i.e
 agr:w.f=u.f∨(2*m<=aV jE w.i.b∧aV jE w.i.e<=2*m+1∧wL (qx w.f) (m:Rat)=wL (qx u.f) (m:Rat)∧wL (qy w.f) (m:Rat)=wL (qy u.f) (m:Rat))
structure qlo(z x:Iv×Qd):Prop where
 f:iQ z.1.f
 t:iQ z.1.t
 lt:aV jE z.1.b<aV jE z.1.e
 b:aV jE x.1.b<=aV jE z.1.b
 e:aV jE z.1.e<=aV jE x.1.e
 same:aZ (z.1,x.2)=aZ z
end Go.Via
namespace Go.Via
open Go
structure qlY(l:List oZ)(M:Rat):Prop where
 le:∀p∈l,∀u,p.a=rl u∨p.b=rl u->u<=M
 mem:∃p∈l,p.a=rl M∨p.b=rl M
section
variable{m:Int}{a b:List PU}
def qch{a b:List PU}{z:Iv×Qd}:z∈flatK uz a b↔∃x∈a,∃y∈b,uz x y=some z:=by
 unfold flatK;rw[List.mem_flatMap]
 constructor
 ·rintro⟨x,hx,h⟩;obtain⟨y,hy,e⟩:=List.mem_filterMap.1 h;exact⟨x,hx,y,hy,e⟩
 ·rintro⟨x,hx,y,hy,e⟩;exact⟨x,hx,List.mem_filterMap.2 ⟨y,hy,e⟩⟩
end
end Go.Via
namespace Go.Via
open Go
def TL{f:Ln}{t:Rl}(hf:jo f<=15)(ht:gY t<=2):jo (jg f t)<=38:=by
 have h3:=sO t;have a0:=rQ f;have a1:=rU f;have a2:=rV f;have a3:=rW f;have z:=wP;have h1:dw (wL (qx f) t.p)<=38:=by
  have h:=xB (qx f) t.p;have e:dw (qx f).c2<=2:=z;have e0:dw (qx f).c0=dw f.x0:=rfl;have e1:dw (qx f).c1=dw f.x1:=rfl;omega
 have h2:dw (wL (qy f) t.p)<=38:=by
  have h:=xB (qy f) t.p;have e:dw (qy f).c2<=2:=z;have e0:dw (qy f).c0=dw f.y0:=rfl;have e1:dw (qy f).c1=dw f.y1:=rfl;omega
 unfold jg
 split
 ·show max (max (dw (wL (qx f) t.p)) (dw 0)) (max (dw (wL (qy f) t.p)) (dw 0))<=38;omega
 ·omega
def qh1(l:List PU):Prop:=∀u∈l,jV u.i<=2∧jo u.f<=38
section
variable{t x y:Nat}{l:List sV}
def Qp(h6:l.length<=6):qh1 (iF t x y l):=fun u hu=>by
 have he:=OA h6 u hu;refine⟨xC he.1.2 he.2.2,?_⟩;rw[yz h6] at hu;refine NZ (P:=fun f=>jo f<=38) (fun v hv=>?_) u hu;have h:=DX (l:=l) (KW h6) (o:=[]) (by simp) v hv;exact⟨Nat.le_trans h.2.2 (by omega),TL h.2.2 h.1.2,TL h.2.2 h.2.1.2⟩
end
structure Fl(A B:List PU):Prop where
 sa:Hu A
 sb:Hu B
 H:Fz A B
 la:A.length<=21
 lb:B.length<=21
 za:qh1 A
 zb:qh1 B
def Fz.swap{A B:List PU}(H:Fz A B):Fz B A:=⟨H.sb,H.sa,H.eb,H.ea⟩
def Fl.swap{A B:List PU}(F:Fl A B):Fl B A:=⟨F.sb,F.sa,F.H.swap,F.lb,F.la,F.zb,F.za⟩
section
variable{ta xa ya tb xb yb ch:Nat}{a b:List sV}
def qh2(ha:a.length<=6)(hb:b.length<=6):Fl (iF ta xa ya a) (qI ta xa ya a tb xb yb b ch):=
 ⟨KZ ha,qcf ha hb,qcg,La ha,qce ha hb,Qp ha,by
 unfold qI;split
 ·exact Qp (by rw[Qn];exact ha)
 ·exact Qp hb⟩
end
abbrev uD(A B:List PU):List oZ:=(ay A B).map aZ
section
variable{A B:List PU}
def Fl.flat(F:Fl A B):ay A B=flatK uz A B:=lJ qi F.H.sa F.H.sb F.H.ea F.H.eb
def Fl.PS(F:Fl A B):∀x∈ay A B,(iQ x.1.f∧iQ x.1.t)∧aV jE x.1.b<aV jE x.1.e:=fun x hx=>by
 rw[F.flat] at hx;exact IY qi F.H.ea F.H.eb x hx
def Fl.cS(F:Fl A B):∀p∈uD A B,iQ p.i.f∧iQ p.i.t:=fun p hp=>by
 obtain⟨x,hx,rfl⟩:=List.mem_map.1 hp;exact(F.PS x hx).1
def Fl.ps(F:Fl A B):∀z∈ay A B,jV z.1<=2∧uB z.2<=324:=fun z hz=>by
 rw[F.flat,qch] at hz;obtain⟨x,hx,y,hy,e⟩:=hz;unfold uz jf at e
 split at e
 ·simp at e;subst e;exact⟨Td (F.za x hx).1 (F.zb y hy).1,Nat.le_trans (qbv (F.za x hx).2 (F.zb y hy).2) (by omega)⟩
 ·simp at e
def qf4{f:Qd}{t:Rl}(ht:iQ t)(hf:uB f<=324)(hz:gY t<=2):gY (NW f t)<=1000:=by
 obtain⟨z,rfl⟩:=ht;rw[Gp];have h:=xB f (z:Rat);have h0:=ql f;have h1:=qo f;have h2:=qL f;have h3:dw (z:Rat)<=2:=Nat.le_trans (sO (rl (z:Rat))) hz;exact yV (by omega) (by omega)
def Fl.sz(F:Fl A B):∀p∈uD A B,jV p.i<=1000∧gY p.a<=1000∧gY p.b<=1000:=fun p hp=>by
 obtain⟨x,hx,rfl⟩:=List.mem_map.1 hp;obtain⟨h1,h2⟩:=F.ps x hx;obtain⟨h3,h4⟩:=(F.PS x hx).1;exact⟨Nat.le_trans h1 (by omega),qf4 h3 h2 (Nat.le_trans (kw _) h1),qf4 h4 h2 (Nat.le_trans (kz _) h1)⟩
def Fl.n(F:Fl A B):(uD A B).length<=42:=by
 have h:=uC A B;have h1:=F.la;have h2:=F.lb;rw[List.length_map];omega
def Fl.ne(h:(uD A B).length≠0):ay A B≠[]:=fun e=>h (by rw[uD,e];rfl)
def Fl.mostz(F:Fl A B):gY (CO (uD A B))<=1000:=by
 by_cases h:ay A B=[]
 ·rw[uD,h];exact yV (Nat.le_trans wP (by omega)) (by omega)
 ·rw[KH F.H.sa F.H.sb F.H.ea F.H.eb h];obtain⟨p,hp,e⟩:=YE (l:=uD A B) (by intro e;exact h (List.map_eq_nil_iff.1 e));have:=F.sz p hp;rcases e with e|e<;>rw[e]
  ·exact this.2.1
  ·exact this.2.2
def Fl.most(F:Fl A B)(h:(uD A B).length≠0):fO (uD A B)=CO (uD A B):=(KH F.H.sa F.H.sb F.H.ea F.H.eb (Fl.ne h)).symm
def Fl.greatz(F:Fl A B)(h:(uD A B).length≠0):gY (fO (uD A B))<=1000:=by rw[F.most h];exact F.mostz
def Fl.ok(F:Fl A B)(h:(uD A B).length≠0):vV A B (uD A B) (fO (uD A B))=0:=qbi F.H.sa F.H.sb F.H.ea F.H.eb (Fl.ne h)
def Fl.comm(F:Fl A B):uD B A=uD A B:=by rw[uD,uD,SV F.H.sa F.H.sb F.H.ea F.H.eb]
def Fl.okC(F:Fl A B)(h:(uD A B).length≠0):vV B A (uD A B) (fO (uD A B))=0:=by
 have h2:(uD B A).length≠0:=(by rw[F.comm];exact h);have h3:=F.swap.ok h2;rw[F.comm] at h3;exact h3
def Fl.nil(F:Fl A B)(h:(uD A B).length=0)(c:List oZ)(m:Rl):vV A B c m=36:=by
 unfold vV;rw[if_pos (by rw[List.map_eq_nil_iff.1 (List.length_eq_zero_iff.1 h)];rfl)]
def Fl.with(F:Fl A B){x:Rl}(h:decide (bW (CO (uD A B)) x<=0)=true):((if(uD A B).length=0 then(36:Int) else 0) !=0||decide (bW (fO (uD A B)) x<=0))=true:=by
 by_cases h0:(uD A B).length=0
 ·rw[if_pos h0];rfl
 ·rw[F.most h0,h,Bool.or_true]
def Fl.sz5(F:Fl A B):∀p∈uD A B,jV p.i<=5000∧gY p.a<=5000∧gY p.b<=5000:=fun p hp=>by
 have h:=F.sz p hp;omega
end
end Go.Via
namespace Go.Proofs.YtaffcpfhedadhaaGreatDoor
open Go Go.RowKit Go.Via
def qci{ta xa ya tb xb yb ch:Nat}{a b:List sV}{A B:List PU}(hA:iF ta xa ya a=A)(hB:qI ta xa ya a tb xb yb b ch=B)(hta:ta<256)(hxa:xa<256)(hya:ya<256)(htb:tb<256)(hxb:xb<256)(hyb:yb<256)(hch:ch<256)
 {ab:Option Nat}{pa:List Value}(aN ac:Nat)(hac:a.length<=ac)(ha6:a.length<=6)(has:∀s∈a,YT s){bb:Option Nat}{pb:List Value}(bN bc:Nat)(hbc:b.length<=bc)(hb6:b.length<=6)(hbs:∀s∈b,YT s):
 dh Tryz.prog 13 [⟨ab,86,pa++ah kQ a,aN,false⟩,⟨bb,86,pb++ah kQ b,bN,false⟩] [.agg #[.int .u8 (ta:Nat),.int .u8 (xa:Nat),.int .u8 (ya:Nat),az ab pa.length a.length ac,.int .u8 (tb:Nat),.int .u8 (xb:Nat),.int .u8 (yb:Nat),az bb pb.length b.length bc,.int .u8 (ch:Nat)]] (SR A.length×SR B.length) (fun z=> .tuple #[z.1.v,z.2.v]) (fun z=>[⟨z.1.b,100,ah aQ A,z.1.n,true⟩,⟨z.2.b,100,ah aQ B,z.2.n,true⟩]):=by
 subst hA;subst hB;exact Lt ta xa ya tb xb yb ch hta hxa hya htb hxb hyb hch a ab pa aN ac hac ha6 has b bb pb bN bc hbc hb6 hbs
section
variable{A B:List PU}
def qh3(F:Fl A B)(ub:Option Nat)(uN uc:Nat)(huc:A.length<=uc)(vb:Option Nat)(vN vc:Nat)(hvc:B.length<=vc)(c:List oZ)(cb:Option Nat)(cN cc:Nat)(hcc:c.length<=cc)(hn:c.length<=42)(m:Rl)(hsz:∀p∈c,jV p.i<=5000∧gY p.a<=5000∧gY p.b<=5000)(hm:gY m<=5000)(hS:∀p∈c,iQ p.i.f∧iQ p.i.t){e:Int}(he:vV A B c m=e):
 dh Tryz.prog 16 [⟨ub,100,ah aQ A,uN,false⟩,⟨vb,100,ah aQ B,vN,false⟩,⟨cb,63,ah bg c,cN,false⟩] [az ub 0 A.length uc,az vb 0 B.length vc,CfV (az cb 0 c.length cc) m] Unit (fun _=> .int .i64 e) (fun _=>[]):=by
 subst he;exact vO qi A ub uN uc huc (Nat.le_trans F.la (by omega)) B vb vN vc hvc (Nat.le_trans F.lb (by omega)) F.sa F.sb F.H c cb cN cc hcc (by omega) m hsz hm F.PS hS
def qcj(F:Fl A B)(ub:Option Nat)(uN uc:Nat)(huc:A.length<=uc)(vb:Option Nat)(vN vc:Nat)(hvc:B.length<=vc)(cb:Option Nat)(cN cc:Nat)(hcc:(uD A B).length<=cc:=by omega)(h:(uD A B).length≠0:=by omega):
 dh Tryz.prog 16 [⟨ub,100,ah aQ A,uN,false⟩,⟨vb,100,ah aQ B,vN,false⟩,⟨cb,63,ah bg (uD A B),cN,false⟩] [az ub 0 A.length uc,az vb 0 B.length vc,CfV (az cb 0 (uD A B).length cc) (fO (uD A B))] Unit (fun _=> .int .i64 0) (fun _=>[]):=
 qh3 F ub uN uc huc vb vN vc hvc (uD A B) cb cN cc hcc F.n _ F.sz5 (Nat.le_trans (F.greatz h) (by omega)) F.cS (F.ok h)
def qck(F:Fl A B)(vb:Option Nat)(vN vc:Nat)(hvc:B.length<=vc)(ub:Option Nat)(uN uc:Nat)(huc:A.length<=uc)(cb:Option Nat)(cN cc:Nat)(hcc:(uD A B).length<=cc:=by omega)(h:(uD A B).length≠0:=by omega):
 dh Tryz.prog 16 [⟨vb,100,ah aQ B,vN,false⟩,⟨ub,100,ah aQ A,uN,false⟩,⟨cb,63,ah bg (uD A B),cN,false⟩] [az vb 0 B.length vc,az ub 0 A.length uc,CfV (az cb 0 (uD A B).length cc) (fO (uD A B))] Unit (fun _=> .int .i64 0) (fun _=>[]):=
 qh3 F.swap vb vN vc hvc ub uN uc huc (uD A B) cb cN cc hcc F.n _ F.sz5 (Nat.le_trans (F.greatz h) (by omega)) F.cS (F.okC h)
def qcl(F:Fl A B)(ub:Option Nat)(uN uc:Nat)(huc:A.length<=uc)(vb:Option Nat)(vN vc:Nat)(hvc:B.length<=vc)(cb:Option Nat)(cN cc:Nat)(hcc:(uD A B).length<=cc)(h:(uD A B).length=0):
 dh Tryz.prog 16 [⟨ub,100,ah aQ A,uN,false⟩,⟨vb,100,ah aQ B,vN,false⟩,⟨cb,63,ah bg (uD A B),cN,false⟩] [az ub 0 A.length uc,az vb 0 B.length vc,CfV (az cb 0 (uD A B).length cc) (fO (uD A B))] Unit (fun _=> .int .i64 36) (fun _=>[]):=
 qh3 F ub uN uc huc vb vN vc hvc (uD A B) cb cN cc hcc F.n _ F.sz5 (by rw[List.length_eq_zero_iff.1 h];exact yV (Nat.le_trans wP (by omega)) (by omega)) F.cS (F.nil h _ _)
end
def ML(ta xa ya tb xb yb ch:Nat)(a b:List sV)(ab bb:Option Nat)(pa pb:List Value)(ac bc:Nat):aP Tryz.prog 12 #[.agg #[.int .u8 (ta:Nat),.int .u8 (xa:Nat),.int .u8 (ya:Nat),az ab pa.length a.length ac,.int .u8 (tb:Nat),.int .u8 (xb:Nat),.int .u8 (yb:Nat),az bb pb.length b.length bc,.int .u8 (ch:Nat)]] (.bool (decide (a.length<=6)&&decide (b.length<=6))):=by
 refine xJ 15 Tryz.func12 fun w=>?_;refine A2 ?_;refine Bp 9 (fun g0=>?_);refine oO ?_;refine Rs 8 ?_ ?_<;>intro hb0
 ·have hs1:a.length<=6:=by have e:=of_decide_eq_true hb0;omega
  refine lm ?_;refine E0 ?_;exact congrArg (fun z=>Ending.returned (.bool z)) (by rw[decide_eq_true hs1,Bool.true_and];exact decide_eq_decide.2 (by omega))
 ·have hs1:¬a.length<=6:=by have e:=of_decide_eq_false hb0;omega
  refine lm ?_;refine E0 ?_;exact congrArg (fun z=>Ending.returned (.bool z)) (by rw[decide_eq_false hs1];rfl)
end Go.Proofs.YtaffcpfhedadhaaGreatDoor
namespace Go.Via
open Go
def Vp(x:Rl):Int:=uw x.p (oV x) x.r
def mr(x:Rl):Int:=
 (if x.n=true then x.p.num*x.r.den-((cO ((x.p.den*x.p.den)*(x.r.num.natAbs*x.r.den)):Nat)+1) else x.p.num*x.r.den+(cO ((x.p.den*x.p.den)*(x.r.num.natAbs*x.r.den)):Nat))/((x.p.den*x.r.den:Nat):Int)
def dM(q:Qd):List Rl:=
 if q.c2=0 then(if q.c1=0 then[] else[rl (-(q.c0/q.c1))]) else
 let h:=q.c1/(-2*q.c2)
 let r:=h*h-q.c0/q.c2
 if r<0 then[] else if r=0 then[rl h] else[mkR h (-1) r,mkR h 1 r]
def tK(x y:Rl):Option Rat:=
 if eH x=true∧eH y=true∧gY x<=1000∧gY y<=1000∧¬Vp x<0∧0<Vp y∧0<bW y (rl ((mr x+1:Int):Rat))∧x.n=false∧jH (mr x)<=4000 then some ((mr x+1:Int):Rat) else none
def FD(sm:Rl->Rl->Option Rat)(q:Qd)(i:Iv):Option Int:=
 if bW i.f i.t<0 then(sm i.f i.t).bind fun r=>if dw r<=5000 then some (Vp (NW q (rl r))) else none else none
def iw(sm:Rl->Rl->Option Rat)(q:Qd)(i:Iv):List Rl->Iv->List (Iv×Int)->Option (List (Iv×Int))
 |[],rest,out=>if jQ rest=true then(FD sm q rest).map fun s=>out++[(rest,s)] else some out
 |r::rs,rest,out=>
  if D7 i r=false then iw sm q i rs rest out else
  if bW rest.f r<0 then(FD sm q ⟨rest.f,r,rest.fo,true⟩).bind fun s=>iw sm q i rs ⟨r,rest.t,true,rest.tp⟩ (out++[(⟨rest.f,r,rest.fo,true⟩,s),(⟨r,r,false,false⟩,0)])
  else iw sm q i rs ⟨r,rest.t,true,rest.tp⟩ (out++[(⟨r,r,false,false⟩,0)])
def qlp(l:List Iv)(i:Iv):List Iv:=match l.getLast? with
 |some u=>l.dropLast++[⟨u.f,i.t,u.fo,i.tp⟩]
 |none=>l
def nR(a b c:Bool)(s:Int):Bool:=if s<0 then a else if s=0 then b else c
def oI(w:Int->Bool):List (Iv×Int)->List Iv->Bool->List Iv
 |[],out,_=>out
 |p::ps,out,before=>if w p.2=true then oI w ps (if before=true then qlp out p.1 else out++[p.1]) true else oI w ps out false
def tu(sm:Rl->Rl->Option Rat)(w:Int->Bool)(q:Qd)(i:Iv):Option (List Iv):=(iw sm q i (dM q) i []).map fun l=>oI w l [] false
def Lu(sm:Rl->Rl->Option Rat)(r:Rat):List (Iv×Qd)->Option (List Iv)
 |[]=>some []
 |x::l=>(tu sm (nR false false true) (qp x.2 ⟨r*r,0,0⟩) x.1).bind fun a=>(Lu sm r l).map fun b=>a++b
end Go.Via
namespace Go.Via
open Go
def rX(n:Int):Rat.divInt n 1=(n:Rat):=by have h:=Rat.num_divInt_den (n:Rat);rw[Rat.num_intCast,Rat.den_intCast] at h;exact h
def Xm(t:Rl)(a b:Bool):kF ⟨rl 0,t,a,b⟩= .agg #[aW,aX,aW,aX,aW,aX,aW,aX,.bool false,.bool (decide (t.p.num<0)),.string (bQ t.p.num.natAbs),.bool false,.string (dm t.p),.bool (decide (t.r.num<0)),.string (bQ t.r.num.natAbs),.bool false,.string (dm t.r),.bool t.n,.bool a,.bool b]:=by
 unfold kF rl;simp only[SX,dm0,SY]
def qh4(q:Rat):xK ⟨0,q,0,0⟩= .agg #[aW,aX,aW,aX,.bool (decide (q.num<0)),.string (bQ q.num.natAbs),.bool false,.string (dm q),aW,aX,aW,aX,aW,aX,aW,aX]:=by
 unfold xK;simp only[SX,dm0,SY]
def qh5(q:Rat):xK ⟨0,0,q,0⟩= .agg #[aW,aX,aW,aX,aW,aX,aW,aX,.bool (decide (q.num<0)),.string (bQ q.num.natAbs),.bool false,.string (dm q),aW,aX,aW,aX]:=by
 unfold xK;simp only[SX,dm0,SY]
def qjK(p q r:Rat):xK ⟨p,q,r,0⟩= .agg #[.bool (decide (p.num<0)),.string (bQ p.num.natAbs),.bool false,.string (dm p),.bool (decide (q.num<0)),.string (bQ q.num.natAbs),.bool false,.string (dm q),.bool (decide (r.num<0)),.string (bQ r.num.natAbs),.bool false,.string (dm r),aW,aX,aW,aX]:=by
 unfold xK;simp only[SX,dm0,SY]
def rz(n:Int):Rl:=rl (n:Rat)
def qjL{n:Int}(h1: -255<=n)(h2:n<=255):gY (rz n)<=2:=yV (nV h1 h2) (Nat.le_refl _)
def eA1:PU:=⟨⟨rl 0,rz 4,false,false⟩,⟨0,((1:Int):Rat),0,0⟩⟩
def eB1:PU:=⟨⟨rl 0,rz 2,false,false⟩,⟨0,0,((3:Int):Rat),0⟩⟩
def eB2:PU:=⟨⟨rz 2,rz 4,true,false⟩,⟨((-4:Int):Rat),((2:Int):Rat),((3:Int):Rat),0⟩⟩
end Go.Via
namespace Go.Proofs.YtaffcpfhedadhaaGreatDoor
open Go Go.RowKit Go.Via
def iP(n:Int)(h1: -255<=n:=by omega)(h2:n<=255:=by omega):aP Tryz.prog 36 #[.int .i64 n] (RV (rz n)):=by
 refine xJ 6 Tryz.func36 fun w=>?_;refine A2 ?_;refine Al 9 O5 (fun g0=>?_);refine A5 ?_;refine Pc (jd n 1) ?_;refine aT 4 (Q (n:Rat)) rfl (congrArg Q (rX n)) ?_;refine(Bu [(0,_)]) (JK) ?_;refine Ss 0 ?_;refine A3 ?_;refine Ed9 0 ?_;exact congrArg Ending.returned (Ob (n:Rat)).symm
def IA:dh Tryz.prog 39 [] [] (SR [eA1].length×SR [eB1,eB2].length) (fun z=> .tuple #[z.1.v,z.2.v]) (fun z=>[⟨z.1.b,100,ah aQ [eA1],z.1.n,true⟩,⟨z.2.b,100,ah aQ [eB1,eB2],z.2.n,true⟩]):=by
 refine sB0 24 Tryz.func39 fun w hL0=>?_;refine A8 ?_;refine Pc (iP 4) ?_;refine(Bu [(1,_)]) (O7) ?_;refine aT 3 (kF eA1.i) rfl (Xm _ _ _).symm ?_;refine Pc (jd 1 1) ?_;refine aT 4 (Q ((1:Int):Rat)) rfl (congrArg Q (rX 1)) ?_;refine(Bu [(1,_)]) (qdm) ?_;refine aT 5 (xK eA1.f) rfl (qh4 _).symm ?_;refine(Bu [(0,_),(1,_)]) (rE) ?_;refine Kr 6 (U3 eA1) ?_;refine(Bl 36 [(0,_)]) (uI) (fun g0=>?_);refine A5 ?_;refine Pc (iP 2) ?_;refine(Bu [(1,_)]) (O7) ?_;refine aT 9 (kF eB1.i) rfl (Xm _ _ _).symm ?_;refine Pc (jd 3 1) ?_;refine aT 10 (Q ((3:Int):Rat)) rfl (congrArg Q (rX 3)) ?_;refine(Bu [(2,_)]) (qdn) ?_;refine aT 11 (xK eB1.f) rfl (qh5 _).symm ?_;refine(Bu [(0,_),(1,_)]) (rE) ?_;refine Kr 12 (U3 eB1) ?_;refine Pc (iP 2) ?_;refine Pc (iP 4) ?_;refine(Bu [(0,_),(1,_),(2,_)]) (Us) ?_;refine Kr 15 (kF eB2.i) ?_;refine Pc (jd (-4) 1) ?_;refine aT 16 (Q (((-4):Int):Rat)) rfl (congrArg Q (rX (-4))) ?_;refine Pc (jd 2 1) ?_;refine aT 17 (Q ((2:Int):Rat)) rfl (congrArg Q (rX 2)) ?_;refine Pc (jd 3 1) ?_;refine aT 18 (Q ((3:Int):Rat)) rfl (congrArg Q (rX 3)) ?_;refine(Bu [(0,_),(1,_),(2,_)]) (qgI) ?_;refine aT 19 (xK eB2.f) rfl (qjK _ _ _).symm ?_;refine(Bu [(0,_),(1,_)]) (rE) ?_;refine Kr 20 (U3 eB2) ?_;refine(Bl 72 [(0,_),(1,_)]) (qgK) (fun g1=>?_);refine lX ?_;refine bF rfl (aj rfl) (aj rfl) (fun w hL=>⟨(⟨some g0,36,1,Nat.le_refl _⟩,⟨some g1,72,2,Nat.le_refl _⟩),?_,hL.pk [some 0,some 1]⟩);exact rfl
def AY(x:Rl)(r:Rat)(hx:gY x<=50000:=by omega)(hr:dw r<=20000:=by omega):aP Tryz.prog 68 #[RV x,Q r] (.bool (decide (bW x (rl (r*r))<=0))):=by
 have h2:=ww hr hr;refine oG 11 Tryz.func68 fun w=>?_;refine A2 ?_;refine Bp 9 (fun g0=>?_);refine Bp 4 (fun g1=>?_);refine A4 ?_;refine Di [] ?_;refine L9 0 0 ?_;refine L4 1 0 ?_;refine L4 1 0 ?_;refine Pc (aK r r) ?_;refine Pc (wQ x (r*r) hx) ?_;refine A5 ?_;refine E0 ?_;exact rfl
def vS(cb:Option Nat)(cn cc:Nat)(x:Rl)(r:Rat)(hx:gY x<=50000:=by omega)(hr:dw r<=20000:=by omega):aP Tryz.prog 26 #[CfV (az cb 0 cn cc) x,Q r] (.bool (decide (bW x (rl (r*r))<=0))):=by
 refine oG 9 Tryz.func26 fun w=>?_;refine A2 ?_;refine Bp 10 (fun g0=>?_);refine Bp 4 (fun g1=>?_);refine A6 ?_;refine L9 0 1 ?_;refine L4 1 0 ?_;refine Pc (AY x r hx hr) ?_;refine A4 ?_;refine E0 ?_;exact rfl
end Go.Proofs.YtaffcpfhedadhaaGreatDoor
namespace Go.Via
open Go
def qh6(x:Rl):(((x.p.den:Int)*(x.p.den:Int))*(x.r.num*(x.r.den:Int))).natAbs=(x.p.den*x.p.den)*(x.r.num.natAbs*x.r.den):=by
 rw[Int.natAbs_mul,Int.natAbs_mul,Int.natAbs_mul];rfl
def qh7{x:Rl}(h:0<=x.r):¬((x.p.den:Int)*(x.p.den:Int))*(x.r.num*(x.r.den:Int))<0:=by
 have h1:0<=x.r.num:=Rat.num_nonneg.2 h;have h2:0<=((x.p.den:Int)*(x.p.den:Int))*(x.r.num*(x.r.den:Int)):=Int.mul_nonneg (Int.mul_nonneg (Int.natCast_nonneg _) (Int.natCast_nonneg _)) (Int.mul_nonneg h1 (Int.natCast_nonneg _));omega
def qcm{x:Rl}(hn:x.n=false):(x.p.num*(x.r.den:Int)+((cO (((x.p.den:Int)*(x.p.den:Int))*(x.r.num*(x.r.den:Int))).natAbs:Nat):Int))/((x.p.den:Int)*(x.r.den:Int))=mr x:=by
 unfold mr;rw[if_neg (by rw[hn];decide),qh6];simp only[Int.natCast_mul]
def qcn(x:Rl):(x.p.den:Int)*(x.r.den:Int)≠0:=Int.mul_ne_zero (by have:=x.p.den_pos;omega) (by have:=x.r.den_pos;omega)
def Vq{x y:Rl}{r:Rat}(h:tK x y=some r):(eH x=true∧eH y=true∧gY x<=1000∧gY y<=1000∧¬Vp x<0∧0<Vp y∧0<bW y (rl ((mr x+1:Int):Rat))∧x.n=false∧jH (mr x)<=4000)∧r=((mr x+1:Int):Rat):=by
 unfold tK at h
 split at h
 ·rename_i hc;exact⟨hc,by injection h with e;exact e.symm⟩
 ·cases h
section
variable{sm:Rl->Rl->Option Rat}{q:Qd}{i:Iv}
def DY{s:Int}(h:FD sm q i=some s):bW i.f i.t<0∧∃r,sm i.f i.t=some r∧dw r<=5000∧s=Vp (NW q (rl r)):=by
 unfold FD at h
 split at h
 ·rename_i hc
  refine⟨hc,?_⟩;rcases hs:sm i.f i.t with _|r
  ·rw[hs] at h;cases h
  ·rw[hs] at h;simp only[Option.bind_some] at h
   split at h
   ·rename_i h5;injection h with e;exact⟨r,rfl,h5,e.symm⟩
   ·cases h
 ·cases h
variable{x:Rl}{k:Nat}{rs:List Rl}{rest:Iv}{o l:List (Iv×Int)}
def qf5(hx:rs[k]? =some x)(hin:D7 i x=false)(h:iw sm q i (rs.drop k) rest o=some l):iw sm q i (rs.drop (k+1)) rest o=some l:=by
 rw[xH hx,iw,if_pos hin] at h;exact h
def qf6(hx:rs[k]? =some x)(hin:D7 i x=true)(hlt:bW rest.f x<0)(h:iw sm q i (rs.drop k) rest o=some l):∃s,FD sm q ⟨rest.f,x,rest.fo,true⟩=some s∧iw sm q i (rs.drop (k+1)) ⟨x,rest.t,true,rest.tp⟩ (o++[(⟨rest.f,x,rest.fo,true⟩,s)]++[(⟨x,x,false,false⟩,0)])=some l:=by
 rw[xH hx,iw,if_neg (by rw[hin];decide),if_pos hlt] at h;rcases hp:FD sm q ⟨rest.f,x,rest.fo,true⟩ with _|s
 ·rw[hp] at h;cases h
 ·rw[hp] at h;exact⟨s,rfl,by rw[List.append_assoc];exact h⟩
def qf7(hx:rs[k]? =some x)(hin:D7 i x=true)(hge:¬bW rest.f x<0)(h:iw sm q i (rs.drop k) rest o=some l):iw sm q i (rs.drop (k+1)) ⟨x,rest.t,true,rest.tp⟩ (o++[(⟨x,x,false,false⟩,0)])=some l:=by
 rw[xH hx,iw,if_neg (by rw[hin];decide),if_neg hge] at h;exact h
def Xn(ho:jQ rest=true)(h:iw sm q i (rs.drop rs.length) rest o=some l):∃s,FD sm q rest=some s∧l=o++[(rest,s)]:=by
 rw[List.drop_length,iw,if_pos ho] at h;rcases hp:FD sm q rest with _|s
 ·rw[hp] at h;cases h
 ·rw[hp] at h;injection h with e;exact⟨s,rfl,e.symm⟩
def Xo(ho:jQ rest=false)(h:iw sm q i (rs.drop rs.length) rest o=some l):l=o:=by
 rw[List.drop_length,iw,if_neg (by rw[ho];decide)] at h
 injection h with e;exact e.symm
end
def qco{q:Qd}(h2:q.c2≠0)(hr:q.c1/(-2*q.c2)*(q.c1/(-2*q.c2))-q.c0/q.c2=0):dM q=[rl (q.c1/(-2*q.c2))]:=by
 unfold dM;rw[if_neg h2];dsimp only;rw[hr,if_neg (by decide),if_pos rfl]
end Go.Via
namespace Go.Proofs.YtaffcpfhedadhaaGreatDoor
open Go Go.RowKit Go.Via
def AZ(q:Rat):aP Tryz.prog 279 #[Q q] (I q.num):=by
 refine xJ 5 Tryz.func279 fun w=>?_;refine A2 ?_;refine Bp 4 (fun g0=>?_);refine Al 2 xR (fun g1=>?_);refine A5 ?_;refine L2 0 0 ?_;refine Ss 1 ?_;refine A3 ?_;refine Qu 1 ?_;exact rfl
def LC(z:Int)(h0:¬z<0)(hz:nb z.natAbs<=33554432:=by omega):aP Tryz.prog 280 #[I z] (.tuple #[I ((cO z.natAbs:Nat):Int),.int .i64 0]):=by
 refine xJ 11 Tryz.func280 fun w=>?_;refine A2 ?_;refine Bp 2 (fun g0=>?_);refine Al 2 xR (fun g1=>?_);refine lm ?_;refine Cd ?_ ?_<;>intro hb0
 ·exact absurd (of_decide_eq_true hb0) h0
 ·refine A6 ?_;refine Pc (Az z.natAbs hz) ?_;refine Pc (dF false (cO z.natAbs)) ?_;refine Ss 1 ?_;refine A4 ?_;refine bF rfl (bu 1 rfl rfl yK (vs:=[_,_]) rfl rfl (Nat.le_of_ble_eq_true rfl) rfl) (aj rfl) (fun w hL=>⟨?_,hL.below⟩);exact rfl
def zo(p q:Rat)(hp:dw p<=4194303:=by omega)(hq:dw q<=4194303:=by omega):aP Tryz.prog 234 #[Q p,Q q] (Q (p/q)):=by
 refine oG 14 Tryz.func234 fun w=>?_;refine A2 ?_;refine Bp 4 (fun g0=>?_);refine Bp 4 (fun g1=>?_);refine Al 4 qU (fun g2=>?_);refine A4 ?_;refine L4 0 0 ?_;refine L4 1 0 ?_;refine Pc (AA p q hp hq) ?_;refine A3 ?_;refine Al 4 qU (fun g3=>?_);refine Ss 3 ?_;refine A5 ?_;refine L4 3 0 ?_;refine Ss 2 ?_;refine A3 ?_;refine G6 2 ?_;exact rfl
def Qq(z:Int)(hz:jH z<=8388608:=by omega):aP Tryz.prog 261 #[I z] (Q (z:Rat)):=by
 refine xJ 12 Tryz.func261 fun w=>?_;refine A2 ?_;refine Bp 2 (fun g0=>?_);refine Al 4 qU (fun g1=>?_);refine A3 ?_;refine Dq [3000000] [0,1,2,3,4,6,7,5,8] ?_;refine L2 0 0 ?_;refine Pc (mJ 1) ?_;refine Pc (zf z 1 hz (Nat.le_trans (Bj (by omega) (by omega)) (by omega))) ?_;refine A2 ?_;refine aT 9 (Q (z:Rat)) rfl (congrArg Q (rX z)) ?_;refine Al 4 qU (fun g2=>?_);refine Ss 2 ?_;refine A6 ?_;refine L4 2 0 ?_;refine Ss 1 ?_;refine A3 ?_;refine G6 1 ?_;exact rfl
def Qr(x:Rl)(hx:gY x<=1000)(h0:0<=x.r)(hn:x.n=false):aP Tryz.prog 260 #[RV x] (I (mr x)):=by
 have e1:=Nat.le_trans (sO x) hx;have e2:=Nat.le_trans (yj x) hx;have n1:=mF e1;have d1:=lD e1;have n2:=mF e2;have d2:=lD e2;have z1:=mD d1 d1;have z2:=mD n2 d2;have z3:=mD z1 z2;have z4:=mD n1 d2;have z5:jH ((cO (((x.p.den:Int)*(x.p.den:Int))*(x.r.num*(x.r.den:Int))).natAbs:Nat):Int)<=4000:=zW (Nat.le_trans (oM _) z3);have z6:=II z4 z5;have z7:=mD d1 d2;refine xJ 59 Tryz.func260 fun w=>?_;refine A2 ?_;refine Bp 9 (fun g0=>?_);refine Al 2 xR (fun g1=>?_);refine A3 ?_;refine Dq [3000000] [0,1,3,4,2,5,6,7,8,9] ?_;refine A1 ?_;refine L4 0 0 ?_;refine A1 ?_;refine L4 0 0 ?_;refine Pc (AZ x.p) ?_;refine Pc (fV x.p) ?_;refine Al 2 xR (fun g2=>?_);refine Al 2 xR (fun g3=>?_);refine Ss 2 ?_;refine Ss 3 ?_;refine A3 ?_;refine Dq [3000000] [0,1,3,4,2,5,6,7,8,9] ?_;refine A1 ?_;refine L4 0 4 ?_;refine A1 ?_;refine L4 0 4 ?_;refine Pc (AZ x.r) ?_;refine Pc (fV x.r) ?_;refine Al 2 xR (fun g4=>?_);refine Al 2 xR (fun g5=>?_);refine Ss 4 ?_;refine Ss 5 ?_;refine A3 ?_;refine Dq [3000000] [0,1,3,4,2,5,6,7,8,9,11,12,10,13] ?_;refine L2 3 0 ?_;refine L2 3 0 ?_;refine L2 4 0 ?_;refine L2 5 0 ?_;refine Pc (gK (x.p.den:Int) (x.p.den:Int)) ?_;refine Pc (gK x.r.num (x.r.den:Int)) ?_;refine Pc (gK ((x.p.den:Int)*(x.p.den:Int)) (x.r.num*(x.r.den:Int))) ?_;refine Pc (LC (((x.p.den:Int)*(x.p.den:Int))*(x.r.num*(x.r.den:Int))) (qh7 h0) (Nat.le_trans z3 (by omega))) ?_;refine A2 ?_;refine Al 2 xR (fun g6=>?_);refine Ss 6 ?_;refine A6 ?_;refine L2 2 0 ?_;refine L2 5 0 ?_;refine Pc (gK x.p.num (x.r.den:Int)) ?_;refine Al 2 xR (fun g7=>?_);refine Ss 7 ?_;refine A9 ?_;refine Cd ?_ ?_<;>intro hb0
 ·exact absurd hb0 (by rw[hn];decide)
 ·refine A1 ?_;refine L2 7 0 ?_;refine L2 6 0 ?_;refine Pc (xy (x.p.num*(x.r.den:Int)) ((cO (((x.p.den:Int)*(x.p.den:Int))*(x.r.num*(x.r.den:Int))).natAbs:Nat):Int)) ?_;refine Ss 7 ?_;refine A3 ?_;refine Dq [3000000] [0,1,2,3,4,5,6,9,10,11,7,12,8,13] ?_;refine L2 7 0 ?_;refine L2 3 0 ?_;refine L2 5 0 ?_;refine Pc (gK (x.p.den:Int) (x.r.den:Int)) ?_;refine Pc (yg (x.p.num*(x.r.den:Int)+((cO (((x.p.den:Int)*(x.p.den:Int))*(x.r.num*(x.r.den:Int))).natAbs:Nat):Int)) ((x.p.den:Int)*(x.r.den:Int)) (by omega) (by omega) (qcn x)) ?_;refine A2 ?_;refine aT 55 (I (mr x)) rfl (congrArg I (qcm hn)) ?_;refine Al 2 xR (fun g8=>?_);refine Al 2 xR (fun g9=>?_);refine Ss 8 ?_;refine A1 ?_;refine Ss 9 ?_;refine A6 ?_;refine L2 8 0 ?_;refine Ss 1 ?_;refine A3 ?_;refine Qu 1 ?_;exact rfl
def GU(x y:Rl)(hx:gY x<=1000)(hy:gY y<=1000)(h0:0<=x.r)(hn:x.n=false)(h1:¬Vp x<0)(h2:0<Vp y)(h3:0<bW y (rl ((mr x+1:Int):Rat)))(hf:jH (mr x)<=4000:=by omega):aP Tryz.prog 235 #[RV x,RV y] (Q ((mr x+1:Int):Rat)):=by
 have f1:jH (mr x+1)<=4002:=II hf (Bj (z:=1) (by omega) (by omega));have f2:dw ((mr x+1:Int):Rat)<=4002:=qdc f1 (by omega);refine oG 81 Tryz.func235 fun w=>?_;refine A2 ?_;refine Bp 9 (fun g0=>?_);refine Bp 9 (fun g1=>?_);refine Al 4 qU (fun g2=>?_);refine A6 ?_;refine L9 0 0 ?_;refine Pc (AL x) ?_;refine A2 ?_;refine Rs 18 ?_ ?_<;>intro hb0
 ·exact absurd (of_decide_eq_true hb0) h1
 ·refine lm ?_;refine L9 1 0 ?_;refine Pc (AL y) ?_;refine A4 ?_;refine Cd ?_ ?_<;>intro hb1
  ·exact absurd (of_decide_eq_true hb1) (by show¬Vp y<=0;omega)
  ·refine A5 ?_;refine L9 0 0 ?_;refine Pc (Qr x hx h0 hn) ?_;refine Al 2 xR (fun g3=>?_);refine Ss 3 ?_;refine A3 ?_;refine Dq [3000000] [0,1,2,3,4,5] ?_;refine L2 3 0 ?_;refine Pc (mJ 1) ?_;refine Pc (xy (mr x) 1 (by omega) (Nat.le_trans (Bj (by omega) (by omega)) (by omega))) ?_;refine Pc (Qq (mr x+1)) ?_;refine Al 4 qU (fun g4=>?_);refine Ss 4 ?_;refine A5 ?_;refine L9 1 0 ?_;refine L4 4 0 ?_;refine Pc (wQ y ((mr x+1:Int):Rat)) ?_;refine A3 ?_;refine Cd ?_ ?_<;>intro hb2
   ·refine A2 ?_;refine L4 4 0 ?_;refine Ss 2 ?_;refine A4 ?_;refine G6 2 ?_;exact rfl
   ·exact absurd h3 (of_decide_eq_false hb2)
def wS(i:Iv)(hi:jV i<=1000)(hf:eH i.f=true)(ht:eH i.t=true):aP Tryz.prog 169 #[kF i] (.int .i64 (if jQ i=true then 0 else 10)):=by
 have i1:=Nat.le_trans (kw i) hi;have i2:=Nat.le_trans (kz i) hi;refine xJ 33 Tryz.func169 fun w=>?_;refine A2 ?_;refine Bp 20 (fun g0=>?_);refine A7 ?_;refine L9 0 0 ?_;refine Pc (jq i.f) ?_;refine aT 6 (.int .i64 0) rfl (congrArg (Value.int .i64) (if_pos hf)) ?_;refine A2 ?_;refine Rs 8 ?_ ?_<;>intro hb0
 ·exact absurd hb0 (by decide)
 ·refine A1 ?_;refine L9 0 9 ?_;refine Pc (jq i.t) ?_;refine aT 11 (.int .i64 0) rfl (congrArg (Value.int .i64) (if_pos ht)) ?_;refine A4 ?_;refine Cd ?_ ?_<;>intro hb1
  ·exact absurd hb1 (by decide)
  ·refine A5 ?_;refine L9 0 0 ?_;refine A1 ?_;refine L9 0 9 ?_;refine Pc (dL i.f i.t) ?_;refine A9 ?_;refine Rs 21 ?_ ?_<;>intro hb2
   ·refine A21 ?_;refine E0 ?_;exact congrArg (fun b=>Ending.returned (.int .i64 b)) (by unfold jQ;first|(simp_all;done)|(simp_all;omega)|(simp_all;intros;omega))
   ·refine A3 ?_;refine Rs 24 ?_ ?_<;>intro hb3
    ·refine A3 ?_;refine Rs 27 ?_ ?_<;>intro hb4
     ·refine zT ?_;refine E0 ?_;exact congrArg (fun b=>Ending.returned (.int .i64 b)) (by unfold jQ;first|(simp_all;done)|(simp_all;omega)|(simp_all;intros;omega))
     ·refine A7 ?_;refine Cd ?_ ?_<;>intro hb5
      ·refine A7 ?_;refine E0 ?_;exact congrArg (fun b=>Ending.returned (.int .i64 b)) (by unfold jQ;first|(simp_all;done)|(simp_all;omega)|(simp_all;intros;omega))
      ·refine A8 ?_;refine E0 ?_;exact congrArg (fun b=>Ending.returned (.int .i64 b)) (by unfold jQ;first|(simp_all;done)|(simp_all;omega)|(simp_all;intros;omega))
    ·refine A19 ?_;refine E0 ?_;exact congrArg (fun b=>Ending.returned (.int .i64 b)) (by unfold jQ;first|(simp_all;done)|(simp_all;omega)|(simp_all;intros;omega))
def Ba(i:Iv)(x:Rl)(hi:jV i<=50000:=by omega)(hx:gY x<=50000:=by omega):aP Tryz.prog 171 #[kF i,RV x] (.bool (D7 i x)):=by
 have i1:=Nat.le_trans (kw i) hi;have i2:=Nat.le_trans (kz i) hi;refine oG 39 Tryz.func171 fun w=>?_;refine A2 ?_;refine Bp 20 (fun g0=>?_);refine Bp 9 (fun g1=>?_);refine A4 ?_;refine Dp [] [0,1,2,4,5,6,3,7,8,9] ?_;refine A1 ?_;refine L9 0 0 ?_;refine L9 1 0 ?_;refine L9 1 0 ?_;refine A1 ?_;refine L9 0 9 ?_;refine Pc (dL i.f x (by omega) hx) ?_;refine Pc (dL x i.t hx) ?_;refine A9 ?_;refine Rs 17 ?_ ?_<;>intro hb0
 ·refine lX ?_;refine Rs 29 ?_ ?_<;>intro hb1
  ·refine CB ?_;refine E0 ?_;exact eB (by unfold D7;first|(simp_all;done)|(simp_all;omega)|(simp_all;intros;omega))
  ·refine A3 ?_;refine Rs 32 ?_ ?_<;>intro hb2
   ·refine lm ?_;refine E0 ?_;exact eB (by unfold D7;first|(simp_all;done)|(simp_all;omega)|(simp_all;intros;omega))
   ·refine lm ?_;refine E0 ?_;exact eB (by unfold D7;first|(simp_all;done)|(simp_all;omega)|(simp_all;intros;omega))
 ·refine A3 ?_;refine Rs 20 ?_ ?_<;>intro hb1
  ·refine A6 ?_;refine Rs 26 ?_ ?_<;>intro hb2
   ·refine A3 ?_;refine Rs 29 ?_ ?_<;>intro hb3
    ·refine CB ?_;refine E0 ?_;exact eB (by unfold D7;first|(simp_all;done)|(simp_all;omega)|(simp_all;intros;omega))
    ·refine A3 ?_;refine Rs 32 ?_ ?_<;>intro hb4
     ·refine lm ?_;refine E0 ?_;exact eB (by unfold D7;first|(simp_all;done)|(simp_all;omega)|(simp_all;intros;omega))
     ·refine lm ?_;refine E0 ?_;exact eB (by unfold D7;first|(simp_all;done)|(simp_all;omega)|(simp_all;intros;omega))
   ·refine IG ?_;refine E0 ?_;exact eB (by unfold D7;first|(simp_all;done)|(simp_all;omega)|(simp_all;intros;omega))
  ·refine A22 ?_;refine E0 ?_;exact eB (by unfold D7;first|(simp_all;done)|(simp_all;omega)|(simp_all;intros;omega))
def LD(sm:Rl->Rl->Option Rat)(hsm:∀x y r,sm x y=some r->aP Tryz.prog 235 #[RV x,RV y] (Q r))(x y:Rl)(hx:gY x<=50000)(hy:gY y<=50000)(h:bW x y<0)(r:Rat)(hr:sm x y=some r):aP Tryz.prog 206 #[RV x,RV y] (.tuple #[Q r,.int .i64 0]):=by
 refine oG 14 Tryz.func206 fun w=>?_;refine A2 ?_;refine Bp 9 (fun g0=>?_);refine Bp 9 (fun g1=>?_);refine Al 4 qU (fun g2=>?_);refine A6 ?_;refine L9 0 0 ?_;refine L9 1 0 ?_;refine Pc (dL x y hx hy) ?_;refine A3 ?_;refine Cd ?_ ?_<;>intro hb0
 ·exact absurd (of_decide_eq_true hb0) (by omega)
 ·refine A4 ?_;refine L9 0 0 ?_;refine L9 1 0 ?_;refine Pc (hsm x y r hr) ?_;refine Ss 2 ?_;refine A4 ?_;refine bF rfl (bu 2 rfl rfl BZ (vs:=[_,_,_,_]) rfl rfl (Nat.le_of_ble_eq_true rfl) rfl) (aj rfl) (fun w hL=>⟨?_,hL.below⟩);exact rfl
def yA(sm:Rl->Rl->Option Rat)(hsm:∀x y r,sm x y=some r->aP Tryz.prog 235 #[RV x,RV y] (Q r))(q:Qd)(i:Iv)(s:Int)(h:FD sm q i=some s)(hq:uB q<=10000:=by omega)(hi:jV i<=1000:=by omega):aP Tryz.prog 172 #[rM q,kF i] (SgV (i,s)):=by
 have i1:=Nat.le_trans (kw i) hi;have i2:=Nat.le_trans (kz i) hi;obtain⟨hlt,r,hr,hr5,hs⟩:=DY h;have hr6:gY (rl r)<=5000:=yV hr5 (by omega);refine oG 27 Tryz.func172 fun w=>?_;refine A2 ?_;refine Bp 12 (fun g0=>?_);refine Bp 20 (fun g1=>?_);refine Al 21 qiS (fun g2=>?_);refine A5 ?_;refine L9 1 0 ?_;refine Al 9 O5 (fun g3=>?_);refine Ss 3 ?_;refine A6 ?_;refine L9 1 0 ?_;refine A1 ?_;refine L9 1 9 ?_;refine Pc (LD sm hsm i.f i.t (by omega) (by omega) hlt r hr) ?_;refine A3 ?_;refine Al 4 qU (fun g4=>?_);refine Ss 4 ?_;refine A9 ?_;refine Cd ?_ ?_<;>intro hb0
 ·refine A1 ?_;refine L4 4 0 ?_;refine Pc (lg r) ?_;refine Ss 3 ?_;refine A3 ?_;refine Di [] ?_;refine yB 1 0 ?_;refine ut 0 0 ?_;refine L9 3 0 ?_;refine Pc (DW q (rl r) Rat.le_refl hq) ?_;refine(Bu [(0,_),(1,_)]) (qdt) ?_;refine Ss 2 ?_;refine A3 ?_;refine aH rfl (bu 2 rfl rfl ZU (vs:=[_,_,_,_,_,_,_,_,_,_,_,_,_,_,_,_,_,_,_,_,_]) rfl rfl (Nat.le_of_ble_eq_true rfl) rfl) (fun w hL=>⟨?_,hL.below⟩);rw[hs];rfl
 ·exact absurd (by decide) (of_decide_eq_false hb0)
def Dc(q:Qd)(hq:uB q<=1000)(h2:q.c2≠0)(hr:q.c1/(-2*q.c2)*(q.c1/(-2*q.c2))-q.c0/q.c2=0):dh Tryz.prog 205 [] [rM q] (SR (dM q).length) (fun z=> .tuple #[z.v,.int .i64 0]) (fun z=>[⟨z.b,38,ah iD (dM q),z.n,true⟩]):=by
 refine⟨by kernel_rfl,fun w hL0=>?_⟩;have q0:=Nat.le_trans (ql q) hq;have q1:=Nat.le_trans (qo q) hq;have q2:=Nat.le_trans (qL q) hq;have hR:=qco h2 hr;have m2:dw (-2:Rat)<=2:=nV (z:= -2) (by omega) (by omega);have z1:=ww m2 q2;have z2:=Eo q1 z1;have z3:=ww z2 z2;have z4:=Eo q0 q2;refine cB1 98 Tryz.func205 hL0 ?_;refine A2 ?_;refine Bp 12 (fun g0=>?_);refine A6 ?_;refine(Bu []) (yL) ?_;refine aT 12 (Q 0) rfl yI.symm ?_;refine Al 4 qU (fun g1=>?_);refine Ss 1 ?_;refine A7 ?_;refine L4 0 8 ?_;refine L4 1 0 ?_;refine gu rfl rfl rfl rfl Z5 (Z8 _ _) ?_;refine A1 ?_;refine Rs 18 ?_ ?_<;>intro hb0
 ·exact absurd (of_decide_eq_true hb0) h2
 ·refine A18 ?_;refine L4 0 8 ?_;refine L4 1 0 ?_;refine gu rfl rfl rfl rfl Z5 (Z8 _ _) ?_;refine A1 ?_;refine Rs 35 ?_ ?_<;>intro hb1
  ·exact absurd (of_decide_eq_true hb1) h2
  ·refine lX ?_;refine L4 0 8 ?_;refine L4 1 0 ?_;refine gu rfl rfl rfl rfl Z5 (Z8 _ _) ?_;refine A3 ?_;refine Cd ?_ ?_<;>intro hb2
   ·exact absurd (of_decide_eq_true hb2) h2
   ·refine A4 ?_;refine Dq [3000000] [0,1,3,4,2,5,6,7,8] ?_;refine A1 ?_;refine L4 0 4 ?_;refine A1 ?_;refine L4 0 8 ?_;refine Pc (gG (-2)) ?_;refine aT 56 (Q (-2)) rfl (congrArg Q (by decide)) ?_;refine Pc (aK (-2) q.c2) ?_;refine Pc (zo q.c1 (-2*q.c2)) ?_;refine Al 4 qU (fun g2=>?_);refine Ss 2 ?_;refine A3 ?_;refine Dq [3000000] [0,1,3,4,5,6,2,7,8,9,10] ?_;refine L4 2 0 ?_;refine L4 2 0 ?_;refine A1 ?_;refine L4 0 0 ?_;refine A1 ?_;refine L4 0 8 ?_;refine Pc (aK (q.c1/(-2*q.c2)) (q.c1/(-2*q.c2))) ?_;refine Pc (zo q.c0 q.c2) ?_;refine Pc (fZ ((q.c1/(-2*q.c2))*(q.c1/(-2*q.c2))) (q.c0/q.c2)) ?_;refine Al 4 qU (fun g3=>?_);refine Ss 3 ?_;refine A4 ?_;refine Pc (gG 1) ?_;refine Al 4 qU (fun g4=>?_);refine Ss 4 ?_;refine A5 ?_;refine L4 3 0 ?_;refine Pc (fF ((q.c1/(-2*q.c2))*(q.c1/(-2*q.c2))-q.c0/q.c2)) ?_;refine aT 72 (.int .i64 0) rfl (congrArg (Value.int .i64) (by rw[hr];rfl)) ?_;refine A9 ?_;refine Cd ?_ ?_<;>intro hb3
    ·exact absurd (of_decide_eq_true hb3) (by decide)
    ·refine A6 ?_;refine Cd ?_ ?_<;>intro hb4
     ·refine A2 ?_;refine L4 2 0 ?_;refine Pc (lg (q.c1/(-2*q.c2))) ?_;refine(Bl 9 [(0,_)]) (Ew) (fun g5=>?_);refine A7 ?_;refine bF rfl (aj rfl) (aj rfl) (fun w hL=>⟨⟨some g5,9,1,by rw[hR];exact Nat.le_refl _⟩,?_,hL.picks [some 5] ⟨⟨_,rfl,aI (by rw[show ah iD (dM q)=_ from congrArg _ hR];rfl)⟩,trivial⟩ rfl rfl⟩);show Ending.returned (.tuple #[az (some g5) 0 _ 1,_])=Ending.returned (.tuple #[az (some g5) 0 (dM q).length 1,_]);rw[hR];rfl
     ·exact absurd (by decide) (of_decide_eq_false hb4)
def wU(q:Qd)(hrt:dh Tryz.prog 205 [] [rM q] (SR (dM q).length) (fun z=> .tuple #[z.v,.int .i64 0]) (fun z=>[⟨z.b,38,ah iD (dM q),z.n,true⟩])):dh Tryz.prog 170 [] [rM q] (SR (dM q).length) (fun z=> .tuple #[z.v,.int .i64 0]) (fun z=>[⟨z.b,38,ah iD (dM q),z.n,true⟩]):=by
 refine Md 8 Tryz.func170 fun w hL0=>?_;refine A2 ?_;refine Bp 12 (fun g0=>?_);refine A6 ?_;refine ut 0 0 ?_;refine(Sc []) hrt (fun z=>?_);obtain⟨rb,rN,rc,hrc⟩:=z;refine A7 ?_;refine bF rfl (aj rfl) (aj rfl) (fun w hL=>⟨⟨rb,rN,rc,hrc⟩,?_,hL.pk [some 1]⟩);exact rfl
def FH(sm:Rl->Rl->Option Rat)(hsm:∀x y r,sm x y=some r->aP Tryz.prog 235 #[RV x,RV y] (Q r))(q:Qd)(i:Iv)(l:List (Iv×Int))(h:iw sm q i (dM q) i []=some l)(hf:eH i.f=true)(ht:eH i.t=true)(hoi:jQ i=true)(hrt:dh Tryz.prog 170 [] [rM q] (SR (dM q).length) (fun z=> .tuple #[z.v,.int .i64 0]) (fun z=>[⟨z.b,38,ah iD (dM q),z.n,true⟩]))(hrz:∀r∈dM q,gY r<=1000∧eH r=true)(hrl:(dM q).length<=2:=by omega)(hq:uB q<=10000:=by omega)(hi:jV i<=1000:=by omega):dh Tryz.prog 125 [] [rM q,kF i] (SR l.length) (fun z=> .tuple #[z.v,.int .i64 0]) (fun z=>[⟨z.b,181,ah EU l,z.n,true⟩]):=by
 refine V3 71 Tryz.func125 fun w hL0=>?_;refine A2 ?_;refine Bp 12 (fun g0=>?_);refine Bp 20 (fun g1=>?_);refine A7 ?_;refine yB 1 0 ?_;refine Pc (wS i hi hf ht) ?_;refine aT 14 (.int .i64 0) rfl (congrArg (Value.int .i64) (if_pos hoi)) ?_;refine A9 ?_;refine Cd ?_ ?_<;>intro hb0
 ·exact absurd hb0 (by decide)
 ·refine A9 ?_;refine ut 0 0 ?_;refine(Sc []) hrt (fun z=>?_);obtain⟨rb,rN,rc,hrc⟩:=z;refine A9 ?_;refine yB 1 0 ?_;refine Al 20 z61 (fun g2=>?_);refine Ss 3 ?_;refine oO ?_;refine El (ι:={z:Nat×Iv×List (Iv×Int)×Option Nat×Nat×Nat // z.1<=(dM q).length∧iw sm q i ((dM q).drop z.1) z.2.1 z.2.2.1=some l∧(eH z.2.1.f=true∧eH z.2.1.t=true∧jV z.2.1<=1000)∧z.2.2.1.length<=2*z.1∧z.2.2.1.length<=z.2.2.2.2.2∧z.2.2.2.2.2*21<=z.2.2.2.2.1}) (fun⟨⟨k,rest,o,ob,oN,oc⟩,hk,hI,hre,ho,h3,h4⟩=>([(2,dV g0),(3,dV g1),(7,az ob 0 o.length oc),(10,dV g2),(24,az rb 0 (dM q).length rc),(25,bz ((dM q).length)),(26,bz k)],[⟨some g0,91,qel q,12,true⟩,⟨some g1,61,bP i,20,true⟩,⟨rb,38,ah iD (dM q),rN,true⟩,⟨some g2,61,bP rest,20,true⟩,⟨ob,181,ah EU o,oN,true⟩],(dM q).length-k)) ⟨⟨0,i,[],none,0,0⟩,Nat.zero_le _,h,⟨hf,ht,hi⟩,Nat.le_refl _,Nat.le_refl _,by simp⟩ ?_ (hL:=(au [some 0,some 1,some 2,some 3,none] ⟨pR,pR,pR,pR,⟨rfl,rfl,rfl⟩,trivial⟩ rfl rfl));rintro⟨⟨k,rest,o,ob,oN,oc⟩,hk,hI,hre,ho,h3,h4⟩;(try dsimp only);replace hk:k<=(dM q).length:=hk;replace hI:iw sm q i ((dM q).drop k) rest o=some l:=hI;replace hre:eH rest.f=true∧eH rest.t=true∧jV rest<=1000:=hre;replace ho:o.length<=2*k:=ho;replace h3:o.length<=oc:=h3;replace h4:oc*21<=oN:=h4;have hre3:=hre.2.2;have hrf:=kw rest;have hrt2:=kz rest;refine A6 ?_;refine Cd ?_ ?_<;>intro hb2
  ·have hlt:k<(dM q).length:=(by have:=of_decide_eq_true hb2;omega);obtain⟨x,hx⟩:∃x,(dM q)[k]? =some x:=⟨(dM q)[k],List.getElem?_eq_getElem hlt⟩;have hxs:=hrz x (List.mem_of_getElem? hx);have hxs1:=hxs.1;refine fD 2 rfl (dK.ne (by decide) (by omega)) (fun hbs=>?_);obtain⟨gr,hgr⟩:=Option.isSome_iff_exists.1 hbs;replace hgr:rb=some gr:=hgr;subst hgr;refine A6 ?_;refine ai 2 ((k)*9) pW iT rfl rfl rfl rfl rfl (by omega) (by omega) (dK.ne (by decide) (by omega)) (by show 0+Int.toNat _*9=_;omega) ?_;refine aO (v:=RV x) 2 ((k)*9) _ rfl rfl rfl rfl iT (dK.sub hx 0 9 (by decide)) rfl (by decide) rfl ?_;refine Al 9 O5 (fun g3=>?_);refine Ss 5 ?_;refine A5 ?_;refine yB 1 0 ?_;refine L9 5 0 ?_;refine Pc (Ba i x) ?_;refine A3 ?_;refine Cd ?_ ?_<;>intro hb3
   ·have hin:D7 i x=false:=by have e:=hb3;simpa using e
    refine A5 ?_;refine Ar (((k+1:Nat):Int)) ?_;refine A3 ?_;exact Nl ⟨⟨k+1,rest,o,ob,oN,oc⟩,hlt,qf5 hx hin hI,hre,by show o.length<=2*(k+1);omega,h3,h4⟩ (hμ:=(by show(dM q).length-(k+1)<(dM q).length-k;omega)) (hL:=eG.auto)
   ·have hin:D7 i x=true:=by have e:=hb3;simpa using e
    refine A6 ?_;refine L9 3 0 ?_;refine L9 5 0 ?_;refine Pc (dL rest.f x) ?_;refine A3 ?_;refine Cd ?_ ?_<;>intro hb4
    ·have hl2:bW rest.f x<0:=of_decide_eq_true hb4;obtain⟨s,hp,hI2⟩:=qf6 hx hin hl2 hI;refine A2 ?_;refine ut 0 0 ?_;refine A1 ?_;refine L9 3 0 ?_;refine L9 5 0 ?_;refine A2 ?_;refine(Bu [(0,_),(1,_),(2,_),(3,_)]) (JM) ?_;refine Kr 46 (kF ⟨rest.f,x,rest.fo,true⟩) ?_;refine dE [_,_] rfl rfl rfl (yA sm hsm q ⟨rest.f,x,rest.fo,true⟩ s hp hq (xC (by show gY rest.f<=_;omega) (by show gY x<=_;omega))) ?_;refine(Bl 21 [(0,_)]) (IQ) (fun g4=>?_);refine fH (s:=21) (len:=o.length) (n2:=1) 4 6 (fun r1=>[_,_,_,_,⟨some r1.g,181,ah EU (o++[((⟨rest.f,x,rest.fo,true⟩,s):Iv×Int)]),r1.n,true⟩,_,_]) Z7 VX rfl rfl rfl rfl rfl rfl rfl rfl rfl rfl rfl rfl (vF.length o) h3 h4 rfl (vF.one (((⟨rest.f,x,rest.fo,true⟩,s):Iv×Int))) (by omega) (fun _=>congrArg (fun c=>_::_::_::_::aG.mk _ 181 c _ true::_) (bH o ((⟨rest.f,x,rest.fo,true⟩,s):Iv×Int))) (fun r1=>?_);refine aT 49 (az (some r1.g) 0 (o++[((⟨rest.f,x,rest.fo,true⟩,s):Iv×Int)]).length r1.cap) rfl (by rw[List.length_append];rfl) ?_;refine A6 ?_;refine L9 5 0 ?_;refine L9 5 0 ?_;refine(Bu [(0,_),(1,_)]) (JL) ?_;refine Kr 53 (kF ⟨x,x,false,false⟩) ?_;refine(Bu [(0,_)]) (VS) ?_;refine aT 54 (SgV ((⟨x,x,false,false⟩,0):Iv×Int)) rfl rfl ?_;refine(Bl 21 [(0,_)]) (IQ) (fun g5=>?_);refine fH (s:=21) (len:=(o++[((⟨rest.f,x,rest.fo,true⟩,s):Iv×Int)]).length) (n2:=1) 4 7 (fun r2=>[_,_,_,_,⟨some r2.g,181,ah EU (o++[((⟨rest.f,x,rest.fo,true⟩,s):Iv×Int)])++EU (((⟨x,x,false,false⟩,0):Iv×Int)),r2.n,true⟩,_,_,_]) Z7 VX rfl rfl rfl rfl rfl rfl rfl rfl rfl rfl rfl rfl (vF.length (o++[((⟨rest.f,x,rest.fo,true⟩,s):Iv×Int)])) (by rw[List.length_append];exact r1.h) r1.hn rfl (vF.one (((⟨x,x,false,false⟩,0):Iv×Int))) (by rw[List.length_append];show o.length+1+1<=_;omega) (fun _=>rfl) (fun r2=>?_);refine A4 ?_;refine L9 5 0 ?_;refine A1 ?_;refine Ss 3 ?_;refine A1 ?_;refine Ss 3 ?_;refine A4 ?_;refine Ar (((k+1:Nat):Int)) ?_;refine A3 ?_;exact Nl ⟨⟨k+1,⟨x,rest.t,true,rest.tp⟩,o++[((⟨rest.f,x,rest.fo,true⟩,s):Iv×Int)]++[((⟨x,x,false,false⟩,0):Iv×Int)],some r2.g,r2.n,r2.cap⟩,hlt,hI2,⟨hxs.2,hre.2.1,xC hxs.1 (Nat.le_trans (kz rest) hre.2.2)⟩,by simp only[List.length_append,List.length_cons,List.length_nil];omega,by rw[List.length_append];exact r2.h,r2.hn⟩ (hμ:=(by show(dM q).length-(k+1)<(dM q).length-k;omega)) (ht:=⟨rfl,rfl,(aB rfl (congrArg (fun z=>az (some r2.g) 0 z r2.cap) (show(o++[((⟨rest.f,x,rest.fo,true⟩,s):Iv×Int)]).length+1=(o++[((⟨rest.f,x,rest.fo,true⟩,s):Iv×Int)]++[((⟨x,x,false,false⟩,0):Iv×Int)]).length by simp))),rfl,rfl,rfl,rfl,trivial⟩) (hL:=(au [some 0,some 1,some 2,some 3,some 4] ⟨pR,pR,pR,pR,⟨_,rfl,aI (by rw[bH])⟩,trivial⟩ rfl rfl))
    ·have hl2:¬bW rest.f x<0:=of_decide_eq_false hb4;have hI2:=qf7 hx hin hl2 hI;refine A5 ?_;refine L9 5 0 ?_;refine L9 5 0 ?_;refine(Bu [(0,_),(1,_)]) (JL) ?_;refine Kr 53 (kF ⟨x,x,false,false⟩) ?_;refine(Bu [(0,_)]) (VS) ?_;refine aT 54 (SgV ((⟨x,x,false,false⟩,0):Iv×Int)) rfl rfl ?_;refine(Bl 21 [(0,_)]) (IQ) (fun g4=>?_);refine(Qa (s:=21) (len:=o.length) (n2:=1) 4 6 (fun r2=>[_,_,_,_,⟨some r2.g,181,ah EU o++EU (((⟨x,x,false,false⟩,0):Iv×Int)),r2.n,true⟩,_,_]) Z7 VX) (vF.length o) h3 h4 (vF.one (((⟨x,x,false,false⟩,0):Iv×Int))) (fun r2=>?_);refine A4 ?_;refine L9 5 0 ?_;refine A1 ?_;refine Ss 3 ?_;refine A1 ?_;refine Ss 3 ?_;refine A4 ?_;refine Ar (((k+1:Nat):Int)) ?_;refine A3 ?_;exact Nl ⟨⟨k+1,⟨x,rest.t,true,rest.tp⟩,o++[((⟨x,x,false,false⟩,0):Iv×Int)],some r2.g,r2.n,r2.cap⟩,hlt,hI2,⟨hxs.2,hre.2.1,xC hxs.1 (Nat.le_trans (kz rest) hre.2.2)⟩,by simp only[List.length_append,List.length_cons,List.length_nil];omega,by rw[List.length_append];exact r2.h,r2.hn⟩ (hμ:=(by show(dM q).length-(k+1)<(dM q).length-k;omega)) (ht:=⟨rfl,rfl,(aB rfl (congrArg (fun z=>az (some r2.g) 0 z r2.cap) (show(o).length+1=(o++[((⟨x,x,false,false⟩,0):Iv×Int)]).length by simp))),rfl,rfl,rfl,rfl,trivial⟩) (hL:=(au [some 0,some 1,some 2,some 3,some 4] ⟨pR,pR,pR,pR,⟨_,rfl,aI (by rw[bH])⟩,trivial⟩ rfl rfl))
  ·have hge:k=(dM q).length:=(by have:=of_decide_eq_false hb2;omega);subst hge;refine A8 ?_;refine yB 3 0 ?_;refine Pc (wS rest hre.2.2 hre.1 hre.2.1) ?_;refine A3 ?_;refine Cd ?_ ?_<;>intro hb3
   ·have hoe:jQ rest=true:=by have e1:=hb3;cases e:jQ rest<;>simp[e] at e1 ⊢
    obtain⟨s,hp,hl⟩:=Xn hoe hI;refine A2 ?_;refine ut 0 0 ?_;refine yB 3 0 ?_;refine Pc (yA sm hsm q rest s hp hq hre.2.2) ?_;refine(Bl 21 [(0,_)]) (IQ) (fun g3=>?_);refine(Qa (s:=21) (len:=o.length) (n2:=1) 4 5 (fun r=>[_,_,_,_,⟨some r.g,181,ah EU o++EU ((rest,s)),r.n,true⟩,_]) Z7 VX) (vF.length o) h3 h4 (vF.one ((rest,s))) (fun r=>?_);refine oO ?_;refine bF rfl (aj rfl) (aj rfl) (fun w hL=>⟨⟨some r.g,r.n,r.cap,by rw[hl,List.length_append];exact r.h⟩,?_,hL.picks [some 4] ⟨⟨_,rfl,aI (by rw[bH,show ah EU l=_ from congrArg _ hl])⟩,trivial⟩ rfl rfl⟩);show Ending.returned (.tuple #[az (some r.g) 0 _ r.cap,_])=Ending.returned (.tuple #[az (some r.g) 0 l.length r.cap,_]);rw[hl,List.length_append];rfl
   ·have hoe:jQ rest=false:=by have e1:=hb3;cases e:jQ rest<;>simp[e] at e1 ⊢
    have hl:=Xo hoe hI;refine lm ?_;refine bF rfl (aj rfl) (aj rfl) (fun w hL=>⟨⟨ob,oN,oc,by rw[hl];exact h3⟩,?_,hL.picks [some 4] ⟨⟨_,rfl,aI (by rw[show ah EU l=_ from congrArg _ hl])⟩,trivial⟩ rfl rfl⟩);show Ending.returned (.tuple #[az ob 0 _ oc,_])=Ending.returned (.tuple #[az ob 0 l.length oc,_]);rw[hl]
end Go.Proofs.YtaffcpfhedadhaaGreatDoor
namespace Go.Via
open Go
def Xp(x:Rl): -1<=Vp x∧Vp x<=1:=by
 have hs:∀q,dJ q= -1∨dJ q=0∨dJ q=1:=fun q=>by rcases jD q with h|h|h<;>simp[h.2]
 have hm:∀{a b:Int},(a= -1∨a=0∨a=1)->(b= -1∨b=0∨b=1)->(a*b= -1∨a*b=0∨a*b=1):=fun h h'=>by
  rcases h with h|h|h<;>rcases h' with h'|h'|h'<;>simp[h,h']
 have hc:∀a b:Rat,oC a b= -1∨oC a b=0∨oC a b=1:=fun a b=>by unfold oC;(repeat' split)<;>simp
 have h1:Vp x= -1∨Vp x=0∨Vp x=1:=by
  unfold Vp uw
  split
  ·exact hs _
  ·split
   ·exact hm (hs _) (hs _)
   ·exact hm (hs _) (hc _ _)
 omega
def Rng(p:Iv×Int):Prop:= -1<=p.2∧p.2<=1
def y7{sm:Rl->Rl->Option Rat}{q:Qd}{i:Iv}:∀{rs:List Rl} {rest:Iv} {o l:List (Iv×Int)},(∀p∈o,Rng p)->iw sm q i rs rest o=some l->∀p∈l,Rng p
 |[],rest,o,l,ho,h=>by
  by_cases e:jQ rest=true
  ·obtain⟨s,hp,hl⟩:=Xn (rs:=[]) e h;obtain⟨_,r,_,_,hs⟩:=DY hp;subst hl;exact yZ ho (show-1<=s∧s<=1 by rw[hs];exact Xp _)
  ·have hl:=Xo (rs:=[]) (by simpa using e) h;subst hl;exact ho
 |x::rs,rest,o,l,ho,h=>by
  by_cases hin:D7 i x=true
  ·by_cases hlt:bW rest.f x<0
   ·obtain⟨s,hp,h2⟩:=qf6 (rs:=x::rs) (k:=0) rfl hin hlt h;obtain⟨_,r,_,_,hs⟩:=DY hp;exact y7 (rs:=rs) (yZ (yZ ho (show Rng ((⟨rest.f,x,rest.fo,true⟩,s):Iv×Int) from(show-1<=s∧s<=1 by rw[hs];exact Xp _))) ⟨show(-1:Int)<=0 by omega,show(0:Int)<=1 by omega⟩) h2
   ·have h2:=qf7 (rs:=x::rs) (k:=0) rfl hin hlt h;exact y7 (rs:=rs) (yZ ho ⟨show(-1:Int)<=0 by omega,show(0:Int)<=1 by omega⟩) h2
  ·have h2:=qf5 (rs:=x::rs) (k:=0) rfl (by simpa using hin) h;exact y7 (rs:=rs) ho h2
def qft{a b c:Bool}{s:Int}(h1: -1<=s)(h2:s<=1):(([.bool a,.bool b,.bool c]:List Value).drop (s+1).toNat).take 1=[.bool (nR a b c s)]:=by
 rcases(show s= -1∨s=0∨s=1 by omega) with rfl|rfl|rfl<;>rfl
def FI(w:Int->Bool):Bool->List (Iv×Int)->Bool
 |_,[]=>true
 |b,p::ps=> !(b&&w p.2)&&FI w (w p.2) ps
def TM{sm:Rl->Rl->Option Rat}{w:Int->Bool}{q:Qd}{i:Iv}{r:List Iv}(h:tu sm w q i=some r):∃l,iw sm q i (dM q) i []=some l∧r=oI w l [] false:=by
 unfold tu at h;rcases hs:iw sm q i (dM q) i [] with _|l
 ·rw[hs] at h;cases h
 ·rw[hs] at h;injection h with e;exact⟨l,rfl,e.symm⟩
section
variable{w:Int->Bool}{l:List (Iv×Int)}{k:Nat}{x:Iv×Int}{o:List Iv}{b:Bool}
def qcp(hx:l[k]? =some x)(hn:FI w b (l.drop k)=true):(b&&w x.2)=false∧FI w (w x.2) (l.drop (k+1))=true:=by
 rw[xH hx,FI,Bool.and_eq_true] at hn;have e:=hn.1;refine⟨?_,hn.2⟩
 revert e
 cases(b&&w x.2)<;>simp
def qh8(hx:l[k]? =some x)(hw:w x.2=true)(hb:b=false):oI w (l.drop k) o b=oI w (l.drop (k+1)) (o++[x.1]) true:=by
 rw[xH hx,oI,if_pos hw,if_neg (by rw[hb];decide)]
def qjM(hx:l[k]? =some x)(hw:w x.2=false):oI w (l.drop k) o b=oI w (l.drop (k+1)) o false:=by
 rw[xH hx,oI,if_neg (by rw[hw];decide)]
def qh9:oI w (l.drop l.length) o b=o:=by rw[List.drop_length,oI]
end
end Go.Via
namespace Go.Proofs.YtaffcpfhedadhaaGreatDoor
open Go Go.RowKit Go.Via
def wV(sm:Rl->Rl->Option Rat)(hsm:∀x y r,sm x y=some r->aP Tryz.prog 235 #[RV x,RV y] (Q r))(q:Qd)(i:Iv)(wn wz wp:Bool)(r:List Iv)(h:tu sm (nR wn wz wp) q i=some r)(hno:∀l,iw sm q i (dM q) i []=some l->FI (nR wn wz wp) false l=true)(hf:eH i.f=true)(ht:eH i.t=true)(hoi:jQ i=true)(hrt:dh Tryz.prog 170 [] [rM q] (SR (dM q).length) (fun z=> .tuple #[z.v,.int .i64 0]) (fun z=>[⟨z.b,38,ah iD (dM q),z.n,true⟩]))(hrz:∀r∈dM q,gY r<=1000∧eH r=true)(hrl:(dM q).length<=2)(hln:∀l,iw sm q i (dM q) i []=some l->l.length<=100)(hq:uB q<=10000:=by omega)(hi:jV i<=1000:=by omega):dh Tryz.prog 76 [] [rM q,kF i,.bool wn,.bool wz,.bool wp] (SR r.length) (fun z=> .tuple #[z.v,.int .i64 0]) (fun z=>[⟨z.b,61,ah bP r,z.n,true⟩]):=by
 refine⟨by kernel_rfl,fun w hL0=>?_⟩;obtain⟨l,hsg,hr⟩:=TM h;have hll:=hln l hsg;have hrg:=y7 (by simp) hsg;refine cB5 75 Tryz.func76 hL0 ?_;refine A2 ?_;refine Bp 12 (fun g0=>?_);refine Bp 20 (fun g1=>?_);refine A6 ?_;refine ut 0 0 ?_;refine yB 1 0 ?_;refine(Sc []) (FH sm hsm q i l hsg hf ht hoi hrt hrz hrl hq hi) (fun z=>?_);obtain⟨lb,lN,lc,hlc⟩:=z;refine lX ?_;refine(Bu [(0,_),(1,_),(2,_)]) (qdo) ?_;refine Al 3 qkz (fun g2=>?_);refine Ss 3 ?_;refine A21 ?_;refine El (ι:={z:Nat×Bool×List Iv×Option Nat×Nat×Nat // z.1<=l.length∧oI (nR wn wz wp) l [] false=oI (nR wn wz wp) (l.drop z.1) z.2.2.1 z.2.1∧FI (nR wn wz wp) z.2.1 (l.drop z.1)=true∧z.2.2.1.length<=z.1∧z.2.2.1.length<=z.2.2.2.2.2∧z.2.2.2.2.2*20<=z.2.2.2.2.1}) (fun⟨⟨k,bef,o,ob,oN,oc⟩,hk,hI,hna,ho,h3,h4⟩=>([(13,.int .i64 0),(14,dV g2),(15,az ob 0 o.length oc),(16,.bool bef),(30,az lb 0 l.length lc),(31,bz (l.length)),(32,bz k)],[⟨lb,181,ah EU l,lN,true⟩,⟨some g2,130,[.bool wn,.bool wz,.bool wp],3,true⟩,⟨ob,61,ah bP o,oN,true⟩],l.length-k)) ⟨⟨0,false,[],none,0,0⟩,Nat.zero_le _,rfl,hno l hsg,Nat.le_refl _,Nat.le_refl _,by simp⟩ ?_ (hL:=(au [some 2,some 3,none] ⟨pR,pR,⟨rfl,rfl,rfl⟩,trivial⟩ rfl rfl));rintro⟨⟨k,bef,o,ob,oN,oc⟩,hk,hI,hna,ho,h3,h4⟩;(try dsimp only);replace hk:k<=l.length:=hk;replace hI:oI (nR wn wz wp) l [] false=oI (nR wn wz wp) (l.drop k) o bef:=hI;replace hna:FI (nR wn wz wp) bef (l.drop k)=true:=hna;replace ho:o.length<=k:=ho;replace h3:o.length<=oc:=h3;replace h4:oc*20<=oN:=h4;refine A6 ?_;refine Cd ?_ ?_<;>intro hb1
 ·have hlt:k<l.length:=(by have:=of_decide_eq_true hb1;omega);obtain⟨x,hx⟩:∃x,l[k]? =some x:=⟨l[k],List.getElem?_eq_getElem hlt⟩;obtain⟨hs1,hs2⟩:=hrg x (List.mem_of_getElem? hx);refine fD 0 rfl (vF.ne (by decide) (by omega)) (fun hbs=>?_);obtain⟨gl,hgl⟩:=Option.isSome_iff_exists.1 hbs;replace hgl:lb=some gl:=hgl;subst hgl;refine A6 ?_;refine ai 0 ((k)*21) Z7 ZU rfl rfl rfl rfl rfl (by omega) (by omega) (vF.ne (by decide) (by omega)) (by show 0+Int.toNat _*21=_;omega) ?_;refine aO (v:=SgV x) 0 ((k)*21) _ rfl rfl rfl rfl ZU (vF.sub hx 0 21 (by decide)) rfl (by decide) rfl ?_;refine Al 21 qiS (fun g3=>?_);refine Ss 3 ?_;refine A6 ?_;refine(Aq (x.2+1)) (by exact(congrArg some (wi (by omega) (by omega) rfl))) ?_;refine(Iz ((x.2+1).toNat) qkJ ti4) ?_;refine aO (v:= .bool ((nR wn wz wp) x.2)) 1 ((x.2+1).toNat) _ rfl rfl rfl rfl ti4 (qft hs1 hs2) rfl (by decide) rfl ?_;refine A9 ?_;refine Rs 43 ?_ ?_<;>intro hb2
  ·have hw:(nR wn wz wp) x.2=true:=hb2;have hbf:bef=false:=by have e:=(qcp hx hna).1;rw[hw] at e;simpa using e
   refine A5 ?_;refine Cd ?_ ?_<;>intro hb3
   ·exact absurd hb3 (by rw[hbf];decide)
   ·refine A6 ?_;refine Cd ?_ ?_<;>intro hb4
    ·refine A3 ?_;refine yB 3 0 ?_;refine(Bl 20 [(0,_)]) (lH) (fun g4=>?_);refine(Qa (s:=20) (len:=o.length) (n2:=1) 2 4 (fun r=>[_,_,⟨some r.g,61,ah bP o++bP (x.1),r.n,true⟩,_,_]) F6 L6) (bI.length o) h3 h4 (bI.one (x.1)) (fun r=>?_);refine oO ?_;refine Ar (((k+1:Nat):Int)) ?_;refine A3 ?_;exact Nl ⟨⟨k+1,true,o++[x.1],some r.g,r.n,r.cap⟩,hlt,by rw[hI];exact qh8 hx hw hbf,by have e:=(qcp hx hna).2;rw[hw] at e;exact e,by rw[List.length_append];exact Nat.succ_le_succ ho,by rw[List.length_append];exact r.h,r.hn⟩ (hμ:=(by show l.length-(k+1)<l.length-k;omega)) (ht:=⟨rfl,rfl,(aB rfl (by rw[List.length_append];rfl)),(aB rfl (congrArg Value.bool hw)),rfl,rfl,rfl,trivial⟩) (hL:=(au [some 0,some 1,some 2] ⟨pR,pR,⟨_,rfl,aI (by rw[bH])⟩,trivial⟩ rfl rfl))
    ·exact absurd hb4 (by rw[hw];decide)
  ·have hw:(nR wn wz wp) x.2=false:=hb2;refine lX ?_;refine Cd ?_ ?_<;>intro hb3
   ·exact absurd hb3 (by rw[hw];decide)
   ·refine lm ?_;refine Ar (((k+1:Nat):Int)) ?_;refine A3 ?_;exact Nl ⟨⟨k+1,false,o,ob,oN,oc⟩,hlt,by rw[hI];exact qjM hx hw,by have e:=(qcp hx hna).2;rw[hw] at e;exact e,Nat.le_succ_of_le ho,h3,h4⟩ (hμ:=(by show l.length-(k+1)<l.length-k;omega)) (ht:=⟨rfl,rfl,rfl,(aB rfl (congrArg Value.bool hw)),rfl,rfl,rfl,trivial⟩) (hL:=eG.auto)
 ·have hge:k=l.length:=(by have:=of_decide_eq_false hb1;omega);subst hge;have hl:r=o:=hr.trans (hI.trans qh9);refine D5 ?_;refine bF rfl (aj rfl) (aj rfl) (fun w hL=>⟨⟨ob,oN,oc,by rw[hl];exact h3⟩,?_,hL.picks [some 2] ⟨⟨_,rfl,aI (by rw[show ah bP r=_ from congrArg _ hl])⟩,trivial⟩ rfl rfl⟩);show Ending.returned (.tuple #[az ob 0 _ oc,_])=Ending.returned (.tuple #[az ob 0 r.length oc,_]);rw[hl]
end Go.Proofs.YtaffcpfhedadhaaGreatDoor
namespace Go.Via
open Go
section
variable{sm:Rl->Rl->Option Rat}{bd:Rat}{P:List (Iv×Qd)}{k:Nat}{x:Iv×Qd}{m:List Iv}
def qfu(hx:P[k]? =some x)(h:Lu sm bd (P.drop k)=some m):∃v m',tu sm (nR false false true) (qp x.2 ⟨bd*bd,0,0⟩) x.1=some v∧Lu sm bd (P.drop (k+1))=some m'∧m=v++m':=by
 rw[xH hx,Lu] at h;rcases hv:tu sm (nR false false true) (qp x.2 ⟨bd*bd,0,0⟩) x.1 with _|v
 ·rw[hv] at h;cases h
 ·rw[hv] at h;rcases hm:Lu sm bd (P.drop (k+1)) with _|m'
  ·simp only[Option.bind_some] at h;rw[hm] at h;cases h
  ·simp only[Option.bind_some] at h;rw[hm] at h;injection h with e;exact⟨v,m',rfl,rfl,e.symm⟩
def qia(h:Lu sm bd (P.drop P.length)=some m):m=[]:=by
 rw[List.drop_length,Lu] at h;injection h with e;exact e.symm
end
end Go.Via
namespace Go.Proofs.YtaffcpfhedadhaaGreatDoor
open Go Go.RowKit Go.Via
def Bc{S:Rl->Prop}{ρ:Rl->Int}(T:gU S ρ)(sm:Rl->Rl->Option Rat)(a:List PU)(ab:Option Nat)(aN ac:Nat)(hac:a.length<=ac)(han:a.length<=400)(b:List PU)(bb:Option Nat)(bN bc:Nat)(hbc:b.length<=bc)(hbn:b.length<=400)(hsa:Hu a)(hsb:Hu b)(bd:Rat)(hbd:dw bd<=20000)(ex:List Iv)(h:Lu sm bd (ay a b)=some ex)(hW:∀x∈ay a b,∀v,tu sm (nR false false true) (qp x.2 ⟨bd*bd,0,0⟩) x.1=some v->dh Tryz.prog 76 [] [rM (qp x.2 ⟨bd*bd,0,0⟩),kF x.1,.bool false,.bool false,.bool true] (SR v.length) (fun z=> .tuple #[z.v,.int .i64 0]) (fun z=>[⟨z.b,61,ah bP v,z.n,true⟩])∧v.length<=10)(hwS:kE S ex)(hwo:Gn ρ ex)(hwz:∀x∈ex,jV x<=50000)(hwl:ex.length<=1000:=by omega):dh Tryz.prog 31 [⟨ab,100,ah aQ a,aN,false⟩,⟨bb,100,ah aQ b,bN,false⟩] [az ab 0 a.length ac,az bb 0 b.length bc,Q bd] (SR (jY ex).length) SR.v (fun z=>[⟨z.b,61,ah bP (jY ex),z.n,true⟩]):=by
 refine⟨by kernel_rfl,fun w hL0=>?_⟩;have hpl:=uC a b;have hps:=yu hsa hsb;have hb2:=ww hbd hbd;have hq0:=wP
 have hb3:uB ⟨bd*bd,0,0⟩<=1000000:=(by show max (dw (bd*bd)) (max (dw 0) (dw 0))<=1000000;omega);refine ZI 41 Tryz.func31 hL0 ?_;refine A2 ?_;refine Bp 4 (fun g0=>?_);refine A5 ?_;refine L4 2 0 ?_;refine L4 2 0 ?_;refine Pc (aK bd bd) ?_;refine Pc (sQ (bd*bd)) ?_;refine Al 12 G5 (fun g1=>?_);refine Ss 3 ?_;refine lX ?_;refine(Sc [0,1]) (o7 a ab aN ac hac (by omega) b bb bN bc hbc (by omega) hsa hsb) (fun z=>?_);obtain⟨pb,pN,pc,hpc⟩:=z;refine A5 ?_;refine El (ι:={z:Nat×List Iv×Option Nat×Nat×Nat // z.1<=(ay a b).length∧(∃m,Lu sm bd ((ay a b).drop z.1)=some m∧ex=z.2.1++m)∧z.2.1.length<=z.2.2.2.2∧z.2.2.2.2*20<=z.2.2.2.1}) (fun⟨⟨k,o,ob,oN,oc⟩,hk,hI,h3,h4⟩=>([(7,dV g1),(8,az ob 0 o.length oc),(19,az pb 0 (ay a b).length pc),(20,bz ((ay a b).length)),(21,bz k)],[⟨some g1,91,qel ⟨bd*bd,0,0⟩,12,true⟩,⟨pb,93,ah DN (ay a b),pN,true⟩,⟨ob,61,ah bP o,oN,true⟩],(ay a b).length-k)) ⟨⟨0,[],none,0,0⟩,Nat.zero_le _,⟨ex,h,rfl⟩,Nat.le_refl _,by simp⟩ ?_ (hL:=(au [some 3,some 4,none] ⟨pR,pR,⟨rfl,rfl,rfl⟩,trivial⟩ rfl rfl));rintro⟨⟨k,o,ob,oN,oc⟩,hk,hI,h3,h4⟩;(try dsimp only);replace hk:k<=(ay a b).length:=hk;obtain⟨m,hm,hwm⟩:=hI;replace hm:Lu sm bd ((ay a b).drop k)=some m:=hm;replace hwm:ex=o++m:=hwm;replace h3:o.length<=oc:=h3;replace h4:oc*20<=oN:=h4;have hol:o.length<=1000:=Nat.le_trans (by rw[hwm,List.length_append];exact Nat.le_add_right _ _) hwl;refine A6 ?_;refine Cd ?_ ?_<;>intro hb1
 ·have hlt:k<(ay a b).length:=(by have:=of_decide_eq_true hb1;omega);obtain⟨x,hx⟩:∃x,(ay a b)[k]? =some x:=⟨(ay a b)[k],List.getElem?_eq_getElem hlt⟩;have hxm:=List.mem_of_getElem? hx;have hxz:=hps x hxm;obtain⟨v,m2,hv,hm2,hm3⟩:=qfu hx hm;obtain⟨hsc,hvl⟩:=hW x hxm v hv;refine fD 1 rfl (oH.ne (by decide) (by omega)) (fun hbs=>?_);obtain⟨gp,hgp⟩:=Option.isSome_iff_exists.1 hbs;replace hgp:pb=some gp:=hgp;subst hgp;refine A6 ?_;refine ai 1 ((k)*32) u88 LY rfl rfl rfl rfl rfl (by omega) (by omega) (oH.ne (by decide) (by omega)) (by show 0+Int.toNat _*32=_;omega) ?_;refine aO (v:=PtV x) 1 ((k)*32) _ rfl rfl rfl rfl LY (oH.sub hx 0 32 (by decide)) rfl (by decide) rfl ?_;refine Al 32 z93 (fun g2=>?_);refine Ss 3 ?_;refine A3 ?_;refine Dp [2000000] [0,1,2,4,5,3,6,7,8,9,10,11] ?_;refine A1 ?_;refine ut 3 20 ?_;refine ut 0 0 ?_;refine A1 ?_;refine yB 3 0 ?_;refine Pc (zi x.2 ⟨bd*bd,0,0⟩) ?_;refine(Sc []) hsc (fun z=>?_);obtain⟨vb,vN,vc,hvc⟩:=z;refine A7 ?_;refine rH 4 rfl (fun hba=>?_);have hvb:=sS bI (by decide) hba;refine A3 ?_;refine(Qo (s:=20) (len:=o.length) 2 4 (ah bP v) (fun r2=>[_,_,⟨r2.b,61,ah bP o++ah bP v,r2.n,true⟩,_,_]) F6 L6) (bI.length o) h3 h4 hvb (by exact(by rw[List.drop_zero,<-bI.length v,List.take_length])) (bI.length v) (bI.ones _) (fun r2=>?_);refine A5 ?_;refine Ar (((k+1:Nat):Int)) ?_;refine A3 ?_;exact Nl ⟨⟨k+1,o++v,r2.b,r2.n,r2.cap⟩,hlt,⟨m2,hm2,by rw[hwm,hm3,List.append_assoc]⟩,by rw[List.length_append];exact r2.h,r2.hn⟩ (hμ:=(by show(ay a b).length-(k+1)<(ay a b).length-k;omega)) (ht:=⟨rfl,(aB rfl (congrArg (fun z=>az r2.b 0 z r2.cap) List.length_append.symm)),rfl,rfl,rfl,trivial⟩) (hL:=(au [some 0,some 1,some 2] ⟨pR,pR,⟨_,rfl,aI (by rw[kC])⟩,trivial⟩ rfl rfl))
 ·have hge:k=(ay a b).length:=(by have:=of_decide_eq_false hb1;omega);subst hge;have hwo2:ex=o:=by rw[hwm,qia hm,List.append_nil]
  subst hwo2;refine A8 ?_;refine(Sc [2]) (tq T ex ob oN oc h3 hwl hwS hwo hwz) (fun z=>?_);obtain⟨nb,nN,nc,hnc⟩:=z;refine A4 ?_;refine aH rfl (aj rfl) (fun w hL=>⟨⟨nb,nN,nc,hnc⟩,?_,hL.pk [some 3]⟩);exact rfl
end Go.Proofs.YtaffcpfhedadhaaGreatDoor
namespace Go.Via
open Go
set_option maxRecDepth 100000
def kA:List PU:=[eA1]
def kB:List PU:=[eB1,eB2]
def kP:List oZ:=(ay kA kB).map aZ
def eP1:oZ:=⟨⟨rl 0,rz 2,false,false⟩,rz 9,rz 13⟩
def eI:Iv:=⟨rl 0,rz 4,true,true⟩
def q3:Rat:=((3:Int):Rat)
def kW:List Iv:=[⟨rl 0,rz 2,true,false⟩,⟨rz 2,rz 4,true,true⟩]
def p1:Iv×Qd:=(⟨rl 0,rz 2,false,false⟩,⟨9,0,1⟩)
def p2:Iv×Qd:=(⟨rz 2,rz 4,true,false⟩,⟨25,-8,1⟩)
def Xq:ay kA kB=[p1,p2]:=by decide+kernel
def qjN:Lu tK q3 (ay kA kB)=some kW:=by decide+kernel
def qcq:jY kW=[eI]:=by decide+kernel
def qf8:kP.length=2:=by decide+kernel
def k_0:kP[0]? =some eP1:=by decide+kernel
def Xt:fO kP=rz 13:=by decide+kernel
def qjO:vV kA kB kP (fO kP)=0:=by decide+kernel
def qls:decide (bW (fO kP) (rl (((4:Int):Rat)*((4:Int):Rat)))<=0)=true:=by decide+kernel
def qlt:decide (bW (fO kP) (rl (((3:Int):Rat)*((3:Int):Rat)))<=0)=false:=by decide+kernel
def qib:Hu kA:=by unfold Hu;decide+kernel
def qic:Hu kB:=by unfold Hu;decide+kernel
def qlu:∀p∈kP,jV p.i<=5000∧gY p.a<=5000∧gY p.b<=5000:=by decide+kernel
def xI(n:Int):iQ (rz n):=⟨n,rfl⟩
def Jb:iQ (rl 0):=⟨0,by rfl⟩
def qjP:YK kA:=fun u hu=>by
 rw[kA,List.mem_singleton] at hu;subst hu;exact⟨Jb,xI 4⟩
def qjQ:YK kB:=fun u hu=>by
 rw[kB,List.mem_cons,List.mem_singleton] at hu;rcases hu with h|h<;>subst h
 ·exact⟨Jb,xI 2⟩
 ·exact⟨xI 2,xI 4⟩
def qjR:Fz kA kB:=by
 refine⟨?_,?_,qjP,qjQ⟩
 ·unfold qG;decide+kernel
 ·unfold qG;decide+kernel
def qjS:∀x∈ay kA kB,(iQ x.1.f∧iQ x.1.t)∧aV jE x.1.b<aV jE x.1.e:=fun x hx=>by
 rw[Xq,List.mem_cons,List.mem_singleton] at hx;rcases hx with h|h<;>subst h
 ·exact⟨⟨Jb,xI 2⟩,by decide+kernel⟩
 ·exact⟨⟨xI 2,xI 4⟩,by decide+kernel⟩
def qlv:∀p∈kP,iQ p.i.f∧iQ p.i.t:=fun p hp=>by
 obtain⟨x,hx,rfl⟩:=List.mem_map.1 hp;exact(qjS x hx).1
def qlw:kE iQ kW:=fun i hi=>by
 rw[kW,List.mem_cons,List.mem_singleton] at hi;rcases hi with h|h<;>subst h
 ·exact⟨Jb,xI 2⟩
 ·exact⟨xI 2,xI 4⟩
def qlx:Gn jE kW:=by unfold Gn;decide+kernel
def qly:∀x∈kW,jV x<=50000:=by decide+kernel
def qf9:∀l,iw tK (qp p1.2 ⟨q3*q3,0,0⟩) p1.1 (dM (qp p1.2 ⟨q3*q3,0,0⟩)) p1.1 []=some l->FI (nR false false true) false l=true∧l.length<=100:=fun l h=>by
 have e:iw tK (qp p1.2 ⟨q3*q3,0,0⟩) p1.1 (dM (qp p1.2 ⟨q3*q3,0,0⟩)) p1.1 []=some [(⟨rl 0,rl 0,false,false⟩,0),(⟨rl 0,rz 2,true,false⟩,1)]:=(by decide+kernel);rw[e] at h;injection h with h;subst h;decide
def qga:∀l,iw tK (qp p2.2 ⟨q3*q3,0,0⟩) p2.1 (dM (qp p2.2 ⟨q3*q3,0,0⟩)) p2.1 []=some l->FI (nR false false true) false l=true∧l.length<=100:=fun l h=>by
 have e:iw tK (qp p2.2 ⟨q3*q3,0,0⟩) p2.1 (dM (qp p2.2 ⟨q3*q3,0,0⟩)) p2.1 []=some [(⟨rz 2,rz 4,true,true⟩,1),(⟨rz 4,rz 4,false,false⟩,0)]:=(by decide+kernel);rw[e] at h;injection h with h;subst h;decide
def Q1:Qd:=qp p1.2 ⟨q3*q3,0,0⟩
def Q2:Qd:=qp p2.2 ⟨q3*q3,0,0⟩
def qjT:Q1.c2≠0∧Q1.c1/(-2*Q1.c2)*(Q1.c1/(-2*Q1.c2))-Q1.c0/Q1.c2=0:=by decide+kernel
def qjU:Q2.c2≠0∧Q2.c1/(-2*Q2.c2)*(Q2.c1/(-2*Q2.c2))-Q2.c0/Q2.c2=0:=by decide+kernel
def qlz:uB Q1<=1000∧jV p1.1<=1000∧eH p1.1.f=true∧eH p1.1.t=true∧jQ p1.1=true∧(dM Q1).length<=2∧(∀r∈dM Q1,gY r<=1000∧eH r=true):=by decide+kernel
def qlA:uB Q2<=1000∧jV p2.1<=1000∧eH p2.1.f=true∧eH p2.1.t=true∧jQ p2.1=true∧(dM Q2).length<=2∧(∀r∈dM Q2,gY r<=1000∧eH r=true):=by decide+kernel
def qlB:(tu tK (nR false false true) Q1 p1.1).map (·.length)=some 1:=by decide+kernel
def qlC:(tu tK (nR false false true) Q2 p2.1).map (·.length)=some 1:=by decide+kernel
end Go.Via
namespace Go.Proofs.YtaffcpfhedadhaaGreatDoor
open Go Go.RowKit Go.Via
def TN:∀x y r,tK x y=some r->aP Tryz.prog 235 #[RV x,RV y] (Q r):=fun x y r h=>by
 obtain⟨⟨h1,h2,h3,h4,h5,h6,h7,h8,h9⟩,rfl⟩:=Vq h;exact GU x y h3 h4 (((BP x).1 h1).elim (fun e=>e.1▸Rat.le_refl) (fun e=>Rat.le_of_lt e.1)) h8 h5 h6 h7 h9
def k_W:∀x∈ay kA kB,∀v,tu tK (nR false false true) (qp x.2 ⟨q3*q3,0,0⟩) x.1=some v->dh Tryz.prog 76 [] [rM (qp x.2 ⟨q3*q3,0,0⟩),kF x.1,.bool false,.bool false,.bool true] (SR v.length) (fun z=> .tuple #[z.v,.int .i64 0]) (fun z=>[⟨z.b,61,ah bP v,z.n,true⟩])∧v.length<=10:=fun x hx v hv=>by
 rw[Xq,List.mem_cons,List.mem_singleton] at hx;rcases hx with h|h<;>subst h
 ·obtain⟨z1,z2,z3,z4,z5,z6,z7⟩:=qlz;refine⟨wV tK TN Q1 p1.1 false false true v hv (fun l hl=>(qf9 l hl).1) z3 z4 z5 (wU Q1 (Dc Q1 z1 qjT.1 qjT.2)) z7 z6 (fun l hl=>(qf9 l hl).2) (Nat.le_trans z1 (by decide)) z2,?_⟩;have e:=qlB;rw[show tu tK (nR false false true) Q1 p1.1=some v from hv] at e;simp at e;omega
 ·obtain⟨z1,z2,z3,z4,z5,z6,z7⟩:=qlA;refine⟨wV tK TN Q2 p2.1 false false true v hv (fun l hl=>(qga l hl).1) z3 z4 z5 (wU Q2 (Dc Q2 z1 qjU.1 qjU.2)) z7 z6 (fun l hl=>(qga l hl).2) (Nat.le_trans z1 (by decide)) z2,?_⟩;have e:=qlC;rw[show tu tK (nR false false true) Q2 p2.1=some v from hv] at e;simp at e;omega
def Df:aP Tryz.prog 11 #[] (.bool true):=by
 have hkl:=qf8;have hkl2:((ay kA kB).map aZ).length=2:=qf8;have hke:(if((ay kA kB).map aZ).length=0 then(36:Int) else 0)=0:=if_neg (by rw[hkl2];decide)
 have hkx:(jY kW).length=1:=(by rw[qcq];rfl);have hk0:=k_0;have hkn:(jY kW)[0]? =some eI:=(by rw[qcq];rfl);have kgz0:gY (fO kP)<=2:=by rw[Xt];exact qjL (by omega) (by omega)
 have kgz:gY (fO kP)<=50000:=Nat.le_trans kgz0 (by omega);refine pB0 77 Tryz.func11 fun w=>?_;refine A7 ?_;refine(Sc []) IA (fun z=>?_);obtain⟨⟨ab,aN,ac,hac⟩,⟨bb,bN,bc,hbc⟩⟩:=z;refine oO ?_;refine(Sc [0,1]) (o8 kA ab aN ac hac (by decide) kB bb bN bc hbc (by decide) qib qic qjP qjQ) (fun z=>?_);obtain⟨cb,cN,cc,hcc⟩:=z;refine A3 ?_;refine aT 15 (.int .i64 0) rfl (congrArg (Value.int .i64) hke) ?_;refine Al 10 z40 (fun g0=>?_);refine Ss 3 ?_;refine A7 ?_;refine Pc (jd 3 1) ?_;refine aT 18 (Q ((3:Int):Rat)) rfl (congrArg Q (rX 3)) ?_;refine(Sc [0,1]) (Bc qi tK kA ab aN ac hac (by decide) kB bb bN bc hbc (by decide) qib qic q3 (Nat.le_trans (nV (by omega) (by omega)) (by omega)) kW qjN k_W qlw qlx qly (by decide)) (fun z=>?_);obtain⟨xb,xN,xc,hxc⟩:=z;refine A4 ?_;refine Di [] ?_ (hc:=(oz (0::1::3::7::15::31::63::127::255::511::1023::511::4095::8191::16383::32767::65535::131071::262143::32767::557055::557055::2654207::7897087::16777215::33554431::67108863::134217727::134217727::134217727::1073741823::2147483647::4294967295::8589934591::17179869183::17179869183::68719476735::137438953471::274877906943::549755813887::549755813887::2199023255551::4398046511103::8796093022207::17592186044415::35184372088831::70368744177663::140737488355327::281474976710655::562949953421311::1125899906842623::2251799813685247::4503599627370495::1125899906842623::10133099161583615::36028797018963967::72057594037927935::144115188075855871::[]) (by kernel_rfl)));refine A2 ?_;refine aT 21 (.bool true) rfl (congrArg Value.bool (by decide)) ?_;refine A5 ?_;refine aT 26 (.bool true) rfl (congrArg Value.bool (decide_eq_true (by omega))) ?_;refine A3 ?_;refine L9 3 1 ?_;refine Kr 30 (RV (fO kP)) ?_;refine Pc (iP 13) ?_;refine gu rfl rfl rfl rfl Mc (MB _ _) ?_;refine aT 32 (.bool true) rfl (congrArg Value.bool (decide_eq_true Xt)) ?_;refine A4 ?_;refine ai 2 ((0)*38) u32 jJ rfl rfl rfl rfl rfl (by omega) (by omega) (bM.ne (by decide) (by omega)) (by show 0+Int.toNat _*38=_;omega) ?_;refine aO (v:=Ic eP1) 2 ((0)*38) _ rfl rfl rfl rfl jJ (bM.sub hk0 0 38 (by decide)) rfl (by decide) rfl ?_;refine Pc (iP 2) ?_;refine(Bu [(1,_)]) (O7) ?_;refine aT 40 (kF ⟨rl 0,rz 2,false,false⟩) rfl (Xm _ _ _).symm ?_;refine Pc (iP 9) ?_;refine Pc (iP 13) ?_;refine(Bu [(0,_),(1,_),(2,_)]) (Ut) ?_;refine Kr 43 (Ic eP1) ?_;refine gu rfl rfl rfl rfl qdB (qem _ _) ?_;refine aT 44 (.bool true) rfl (congrArg Value.bool (decide_eq_true rfl)) ?_;refine A4 ?_;refine LG 3 0 ?_;refine(Sd [0,1,2]) (vO qi kA ab aN ac hac (by decide) kB bb bN bc hbc (by decide) qib qic qjR kP cb cN cc hcc (by omega) (fO kP) qlu (by omega) qjS qlv) ?_;refine aT 50 (.int .i64 0) rfl (congrArg (Value.int .i64) qjO) ?_;refine A1 ?_;refine aT 51 (.bool true) rfl (congrArg Value.bool (by decide)) ?_;refine A2 ?_;refine LG 3 0 ?_;refine Pc (jd 4 1) ?_;refine aT 55 (Q ((4:Int):Rat)) rfl (congrArg Q (rX 4)) ?_;refine Pc (vS cb kP.length cc (fO kP) ((4:Int):Rat) kgz (Nat.le_trans (nV (by omega) (by omega)) (by omega))) ?_;refine aT 56 (.bool true) rfl (congrArg Value.bool (qls)) ?_;refine A2 ?_;refine LG 3 0 ?_;refine Pc (jd 3 1) ?_;refine aT 60 (Q ((3:Int):Rat)) rfl (congrArg Q (rX 3)) ?_;refine Pc (vS cb kP.length cc (fO kP) ((3:Int):Rat) kgz (Nat.le_trans (nV (by omega) (by omega)) (by omega))) ?_;refine aT 61 (.bool false) rfl (congrArg Value.bool qlt) ?_;refine A6 ?_;refine aT 67 (.bool true) rfl (congrArg Value.bool (decide_eq_true (by omega))) ?_;refine A3 ?_;refine ai 4 ((0)*20) F6 iC rfl rfl rfl rfl rfl (by omega) (by omega) (bI.ne (by decide) (by omega)) (by show 0+Int.toNat _*20=_;omega) ?_;refine aO (v:=kF eI) 4 ((0)*20) _ rfl rfl rfl rfl iC (bI.sub hkn 0 20 (by decide)) rfl (by decide) rfl ?_;refine Pc (iP 4) ?_;refine(Bu [(1,_),(2,_),(3,_)]) (QY) ?_;refine aT 74 (kF eI) rfl (Xm _ _ _).symm ?_;refine gu rfl rfl rfl rfl qiU (qjb _ _) ?_;refine aT 75 (.bool true) rfl (congrArg Value.bool (decide_eq_true rfl)) ?_;refine A5 ?_;refine E0 ?_;exact rfl
def DZ(ta xa ya tb xb yb ch:Nat)(hta:ta<256)(hxa:xa<256)(hya:ya<256)(htb:tb<256)(hxb:xb<256)(hyb:yb<256)(hch:ch<256)(a:List sV)(ab:Option Nat)(pa:List Value)(aN ac:Nat)(hac:a.length<=ac)(has:∀s∈a,YT s)(b:List sV)(bb:Option Nat)(pb:List Value)(bN bc:Nat)(hbc:b.length<=bc)(hbs:∀s∈b,YT s):dh Tryz.prog 3 [⟨ab,86,pa++ah kQ a,aN,false⟩,⟨bb,86,pb++ah kQ b,bN,false⟩] [.agg #[.int .u8 (ta:Nat),.int .u8 (xa:Nat),.int .u8 (ya:Nat),az ab pa.length a.length ac,.int .u8 (tb:Nat),.int .u8 (xb:Nat),.int .u8 (yb:Nat),az bb pb.length b.length bc,.int .u8 (ch:Nat)]] Unit (fun _=> .bool true) (fun _=>[]):=by
 refine Md 91 Tryz.func3 fun w hL0=>?_;refine A2 ?_;refine Bp 9 (fun g0=>?_);refine A6 ?_;refine Pc (Df) ?_;refine A1 ?_;refine Kr 11 (.bool false) ?_;refine A1 ?_;refine L9 2 0 ?_;refine Pc (ML ta xa ya tb xb yb ch a b ab bb pa pb ac bc) ?_;refine A4 ?_;refine Cd ?_ ?_<;>intro hb0
 ·refine A2 ?_;refine Pc (Df) ?_;refine A5 ?_;refine aH rfl (aj rfl) (fun w hL=>⟨(),?_,hL.pk []⟩);exact rfl
 ·have hf6:=hb0;obtain⟨ha6,hb6⟩:a.length<=6∧b.length<=6:=by simpa using hf6
  obtain⟨A,hA⟩:∃A,iF ta xa ya a=A:=⟨_,rfl⟩;obtain⟨B,hB⟩:∃B,qI ta xa ya a tb xb yb b ch=B:=⟨_,rfl⟩;have F:Fl A B:=by rw[<-hA,<-hB];exact qh2 ha6 hb6
  have hn42:((ay A B).map aZ).length<=42:=F.n;refine A4 ?_;refine L9 2 0 ?_;refine(Sc [0,1]) (qci hA hB hta hxa hya htb hxb hyb hch aN ac hac ha6 has bN bc hbc hb6 hbs) (fun z=>?_);obtain⟨⟨ub,uN,uc,huc⟩,⟨vb,vN,vc,hvc⟩⟩:=z;refine oO ?_;refine(Sc [3,4]) (o8 A ub uN uc huc (Nat.le_trans F.la (by omega)) B vb vN vc hvc (Nat.le_trans F.lb (by omega)) F.sa F.sb F.H.ea F.H.eb) (fun z=>?_);obtain⟨cb,cN,cc,hcc⟩:=z;refine A3 ?_;refine Al 10 z40 (fun g1=>?_);refine Ss 6 ?_;refine A7 ?_;refine(Sc [4,3]) (o8 B vb vN vc hvc (Nat.le_trans F.lb (by omega)) A ub uN uc huc (Nat.le_trans F.la (by omega)) F.sb F.sa F.H.eb F.H.ea) (fun z=>?_);obtain⟨db,dN,dc,hdc⟩:=z;refine A3 ?_;refine Al 10 z40 (fun g2=>?_);refine Ss 8 ?_;refine A7 ?_;refine(Sc [3,4]) (MI A ub uN uc huc (Nat.le_trans F.la (by omega)) B vb vN vc hvc (Nat.le_trans F.lb (by omega)) F.sa F.sb F.H) (fun z=>?_);obtain⟨wb,wN,wc,hwc⟩:=z;refine Al 10 z40 (fun g3=>?_);refine Ss 10 ?_;refine A5 ?_;refine QF 10 0 0 rfl rfl rfl rfl rfl qgB rfl rfl ?_;refine Ld 10 0 [_] qkw ?_;refine A4 ?_;refine Cd ?_ ?_<;>intro hb1
  ·have hw0:((ay A B).map aZ).length=0:=by have e:=of_decide_eq_true hb1;omega
   have hcm:(ay B A).map aZ=(ay A B).map aZ:=F.comm;have he1:(if((ay A B).map aZ).length=0 then(36:Int) else 0)=36:=if_pos hw0;have he2:(if((ay B A).map aZ).length=0 then(36:Int) else 0)=36:=if_pos (by rw[hcm];exact hw0);refine A4 ?_;refine aT 43 (.bool true) rfl (congrArg Value.bool (decide_eq_true he1)) ?_;refine A3 ?_;refine aT 46 (.bool true) rfl (congrArg Value.bool (decide_eq_true he2)) ?_;refine A6 ?_;refine aT 52 (.bool true) rfl (congrArg Value.bool (decide_eq_true (by omega))) ?_;refine A4 ?_;refine LG 6 0 ?_;refine(Sd [3,4,5]) (qcl F ub uN uc huc vb vN vc hvc cb cN cc hcc hw0) ?_;refine A1 ?_;refine aT 59 (.bool true) rfl (congrArg Value.bool (by decide)) ?_;refine A6 ?_;refine aH rfl (aj rfl) (fun w hL=>⟨(),?_,hL.pk []⟩);exact rfl
  ·have hw1:((ay A B).map aZ).length≠0:=by have e:=of_decide_eq_false hb1;omega
   have hcm:(ay B A).map aZ=(ay A B).map aZ:=F.comm;have he1:(if((ay A B).map aZ).length=0 then(36:Int) else 0)=0:=if_neg hw1;have he2:(if((ay B A).map aZ).length=0 then(36:Int) else 0)=0:=if_neg (by rw[hcm];exact hw1);refine A6 ?_;refine aT 62 (.bool true) rfl (congrArg Value.bool (decide_eq_true he1)) ?_;refine A3 ?_;refine aT 65 (.bool true) rfl (congrArg Value.bool (decide_eq_true he2)) ?_;refine A2 ?_;refine LG 6 0 ?_;refine LG 10 0 ?_;refine(Sd [5,9]) (FB ((ay A B).map aZ) cb cN cc hcc (by omega) ((ay A B).map aZ) wb wN wc hwc (by omega) (fO ((ay A B).map aZ)) (CO ((ay A B).map aZ))) ?_;refine aT 70 (.bool true) rfl (congrArg Value.bool (decide_eq_true ⟨rfl,F.most hw1⟩)) ?_;refine A2 ?_;refine LG 8 0 ?_;refine LG 10 0 ?_;refine(Sd [7,9]) (FB ((ay B A).map aZ) db dN dc hdc (by rw[hcm];omega) ((ay A B).map aZ) wb wN wc hwc (by omega) (fO ((ay B A).map aZ)) (CO ((ay A B).map aZ))) ?_;refine aT 75 (.bool true) rfl (congrArg Value.bool (decide_eq_true ⟨hcm,by rw[hcm];exact F.most hw1⟩)) ?_;refine A4 ?_;refine LG 6 0 ?_;refine(Sd [3,4,5]) (qcj F ub uN uc huc vb vN vc hvc cb cN cc hcc hw1) ?_;refine A1 ?_;refine aT 82 (.bool true) rfl (congrArg Value.bool (by decide)) ?_;refine A4 ?_;refine LG 6 0 ?_;refine(Sd [4,3,5]) (qck F vb vN vc hvc ub uN uc huc cb cN cc hcc hw1) ?_;refine A1 ?_;refine aT 89 (.bool true) rfl (congrArg Value.bool (by decide)) ?_;refine A5 ?_;refine aH rfl (aj rfl) (fun w hL=>⟨(),?_,hL.pk []⟩);exact rfl
end Go.Proofs.YtaffcpfhedadhaaGreatDoor
