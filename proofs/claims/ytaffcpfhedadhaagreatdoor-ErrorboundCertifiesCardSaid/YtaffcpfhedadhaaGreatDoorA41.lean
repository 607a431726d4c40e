/-
  Part 41 (chapter 32): lemmas, walks. Each theorem states its own conditions.
-/
import Derived.Test.YtaffcpfhedadhaaGreatDoorA11
import Derived.Test.YtaffcpfhedadhaaGreatDoorA12
import Derived.Test.YtaffcpfhedadhaaGreatDoorA13
import Derived.Test.YtaffcpfhedadhaaGreatDoorA18
import Derived.Test.YtaffcpfhedadhaaGreatDoorA26
import Derived.Test.YtaffcpfhedadhaaGreatDoorA32
import Derived.Test.YtaffcpfhedadhaaGreatDoorA33
import Derived.Test.YtaffcpfhedadhaaGreatDoorA37
import Derived.Test.YtaffcpfhedadhaaGreatDoorA39
import Derived.Test.YtaffcpfhedadhaaGreatDoorA40
set_option linter.all false
set_option maxRecDepth 20000
set_option maxHeartbeats 20000000
namespace Go.Proofs.YtaffcpfhedadhaaGreatDoor
open Go Go.RowKit Go.Via
def KH(ta xa ya tb xb yb ch:Nat)(hta:ta<256)(hxa:xa<256)(hya:ya<256)(htb:tb<256)(hxb:xb<256)(hyb:yb<256)(hch:ch<256)(a:List rJ)(ab:Option Nat)(pa:List Value)(aN ac:Nat)(hac:a.length<=ac)(ha6:a.length<=6)(has:∀s∈a,YW s)(b:List rJ)(bb:Option Nat)(pb:List Value)(bN bc:Nat)(hbc:b.length<=bc)(hb6:b.length<=6)(hbs:∀s∈b,YW s):bW Tryz.prog 13 [⟨ab,86,pa++ah jY a,aN,false⟩,⟨bb,86,pb++ah jY b,bN,false⟩] [.agg #[.int .u8 (ta:Nat),.int .u8 (xa:Nat),.int .u8 (ya:Nat),az ab pa.length a.length ac,.int .u8 (tb:Nat),.int .u8 (xb:Nat),.int .u8 (yb:Nat),az bb pb.length b.length bc,.int .u8 (ch:Nat)]] (SR (jd ta xa ya a).length×SR (pM ta xa ya a tb xb yb b ch).length) (fun z=> .tuple #[z.1.v,z.2.v]) (fun z=>[⟨z.1.b,100,ah aJ (jd ta xa ya a),z.1.n,true⟩,⟨z.2.b,100,ah aJ (pM ta xa ya a tb xb yb b ch),z.2.n,true⟩]):=by
 refine MI 65 Tryz.func13 fun w hL0=>?_;refine A2 ?_;refine Bp 9 (fun g0=>?_);refine A7 ?_;refine L4 2 4 ?_;refine Al 4 z24 (fun g1=>?_);refine Ss 3 ?_;refine A7 ?_;refine(Dv ((ch%4:Nat):Int)) (congrArg some (jy _ _ rfl rfl)) ?_;refine A3 ?_;refine Cd ?_ ?_<;>intro haQ
 ·have hch:0<ch%4:=by have e:=of_decide_eq_true haQ;omega
  refine A3 ?_;refine L4 2 0 ?_;refine Ss 3 ?_;refine A3 ?_;refine qF 0 rfl (fun hba=>?_);have hab:=Y2 jS (by decide) pa hba;refine A1 ?_;refine(Bl 0 []) (qhi) (fun g2=>?_);refine A3 ?_;refine gG (s:=4) (len:=0) 4 0 (ah jY a) (fun r=>[_,_,_,_,⟨r.b,86,ah jY a,r.n,true⟩]) u22 qlt rfl rfl rfl rfl rfl rfl rfl rfl rfl rfl rfl (Nat.le_refl _) (Nat.le_refl _) hab (by rw[List.drop_left];exact List.take_of_length_le (by rw[jS.length];exact Nat.le_refl _)) (jS.length a) (jS.ones _) (by omega) (fun _=>rfl) (fun r=>?_);obtain⟨nb,nN,nc,hnc,hnN⟩:=r;refine aQ 19 (az nb 0 a.length nc) rfl (congrArg (fun z=>az nb 0 z nc) (Nat.zero_add _)) ?_;refine A1 ?_;refine Ss 3 ?_;refine AL ?_;refine Rs 26 ?_ ?_<;>intro hbQ
  ·have hl0:0<a.length:=by have e:=of_decide_eq_true hbQ;omega
   refine A2 ?_;refine(Dv ((ch%4:Nat):Int)) (congrArg some (jy _ _ rfl rfl)) ?_;refine A4 ?_;refine Cd ?_ ?_<;>intro hcQ
   ·have hc1:1<ch%4:=by have e:=of_decide_eq_true hcQ;omega
    obtain⟨k,hk⟩:∃k,k=ch/4%a.length:=⟨_,rfl⟩;have hkl:k<a.length:=hk▸Nat.mod_lt _ hl0;obtain⟨s,hx⟩:∃s,a[k]? =some s:=⟨a[k],List.getElem?_eq_getElem hkl⟩;obtain⟨hs1,hs2,hs3,hs4⟩:=has s (List.mem_of_getElem? hx);have hcA:=qfK hl0 hc1 hk hx;have hW:pM ta xa ya a tb xb yb b ch=jd ta xa ya ((a.set k ⟨s.time,(s.x+ch/16)%256,s.y,s.kind⟩).set k (EX ch s)):=(KG hch).trans (by rw[hcA]);have hAo:∀v∈((a.set k ⟨s.time,(s.x+ch/16)%256,s.y,s.kind⟩).set k (EX ch s)),YW v:=fun v hv=>qiB has v (by rw[hcA];exact hv)
    have hAl:((a.set k ⟨s.time,(s.x+ch/16)%256,s.y,s.kind⟩).set k (EX ch s)).length=a.length:=(by simp only[List.length_set]);refine A1 ?_;refine eF 4 rfl (jS.ne (by decide) hl0) (fun hbs=>?_);obtain⟨gn,hgn⟩:=Option.isSome_iff_exists.1 hbs;replace hgn:nb=some gn:=hgn;subst hgn;refine Di [] ?_;refine A4 ?_;refine(Dv ((ch/4:Nat):Int)) (by exact(congrArg some (qct _ _ (by omega) rfl rfl))) ?_;refine(Cv ((ch/4:Nat):Int) u5 u3) (by exact(wi (by omega) (by omega) rfl)) ?_;refine A1 ?_;refine(Dv (k:Int)) (congrArg some ((jy _ _ rfl rfl).trans (congrArg Nat.cast hk.symm))) ?_;refine ai 4 ((k)*4) u22 qha rfl rfl rfl rfl rfl (by omega) (by omega) (jS.ne (by decide) (by omega)) (by show 0+Int.toNat _*4=_;omega) ?_;refine A3 ?_;let sX:List (Nat×Value)->List (Nat×Value):=fun l=>(1,dD g0)::(4,dD g1)::l;let sY:List aC->List aC:=fun l=>⟨ab,86,pa++ah jY a,aN,false⟩::⟨bb,86,pb++ah jY b,bN,false⟩::⟨some g0,26,[.int .u8 (ta:Nat),.int .u8 (xa:Nat),.int .u8 (ya:Nat),az ab pa.length a.length ac,.int .u8 (tb:Nat),.int .u8 (xb:Nat),.int .u8 (yb:Nat),az bb pb.length b.length bc,.int .u8 (ch:Nat)],9,true⟩::⟨some g1,24,[.int .u8 (ta:Nat),.int .u8 (xa:Nat),.int .u8 (ya:Nat),az (some gn) 0 a.length nc],4,true⟩::l;refine AV (nt:=65) (Z:=Unit) (fun _=>sX []) (fun _=>sY [⟨some gn,86,ah jY ((a.set k ⟨s.time,(s.x+ch/16)%256,s.y,s.kind⟩).set k (EX ch s)),nN,true⟩]) 21 [0,1,2,3,4,5,6,7,8,9,10,11,12,13,14,15,16,17,18,19,20] mixed (by kernel_rfl) (fun hd0=>?_) ?_
    ·refine bz (nt:=65) (Z:=Unit) (fun _=>sX [(6,.pointer (some ⟨gn,k*4,none⟩)),(55,.int .u8 (((s.y+1)%256:Nat):Int)),(59,.pointer (some ⟨gn,k*4+2,none⟩))]) (fun _=>sY [⟨some gn,86,ah jY (a.set k ⟨s.time,(s.x+ch/16)%256,s.y,s.kind⟩),nN,true⟩]) 1 [20] (fun z=>?_) (fun hd1=>?_)
     ·(try dsimp only);refine Fa 20 ?_
      ·refine oO rfl 4 ((k)*4+2) [_,_,_,_,_] (ah jY ((a.set k ⟨s.time,(s.x+ch/16)%256,s.y,s.kind⟩).set k (EX ch s))) rfl rfl rfl rfl Y4 rfl (by rw[Nat.ble_eq,jS.length];show k*4+2+1<=(a.set k ⟨s.time,(s.x+ch/16)%256,s.y,s.kind⟩).length*4;(try simp only[List.length_set]);omega) rfl (jS.setf (show(a.set k ⟨s.time,(s.x+ch/16)%256,s.y,s.kind⟩)[k]? =some ⟨s.time,(s.x+ch/16)%256,s.y,s.kind⟩ by rw[List.getElem?_set_self hkl]) rfl (by decide)) rfl ?_;refine A1 ?_;exact Nw hd0 () [0,1,2,3,4]
     refine bz (nt:=65) (Z:=Unit) (fun _=>sX [(6,.pointer (some ⟨gn,k*4,none⟩)),(42,.pointer (some ⟨gn,k*4,none⟩)),(50,.int .u8 (((s.x+ch/16)%256:Nat):Int)),(55,.int .u8 (((s.y+1)%256:Nat):Int)),(57,.pointer (some ⟨gn,k*4+1,none⟩))]) (fun _=>sY [⟨some gn,86,ah jY a,nN,true⟩]) 4 [17,18,19,20] (fun z=>?_) (fun hd2=>?_)
     ·(try dsimp only);refine Fa 17 ?_
      ·refine oO rfl 4 ((k)*4+1) [_,_,_,_,_] (ah jY (a.set k ⟨s.time,(s.x+ch/16)%256,s.y,s.kind⟩)) rfl rfl rfl rfl Y4 rfl (by rw[Nat.ble_eq,jS.length];show k*4+1+1<=(a).length*4;(try simp only[List.length_set]);omega) rfl (jS.setf hx rfl (by decide)) rfl ?_;refine A1 ?_;refine Nt 18 ?_;refine A2 ?_;refine Nt 19 ?_;refine Fg ((k)*4) 2 ?_;refine A1 ?_;exact Nw hd1 () [0,1,2,3,4]
     refine bz (nt:=65) (Z:=Unit) (fun _=>sX [(6,.pointer (some ⟨gn,k*4,none⟩)),(41,.pointer (some ⟨gn,k*4,none⟩)),(42,.pointer (some ⟨gn,k*4,none⟩)),(45,.pointer (some ⟨gn,k*4+1,none⟩)),(49,.int .u8 ((ch/16:Nat):Int)),(55,.int .u8 (((s.y+1)%256:Nat):Int))]) (fun _=>sY [⟨some gn,86,ah jY a,nN,true⟩]) 8 [5,9,15,16,17,18,19,20] (fun z=>?_) (fun hd3=>?_)
     ·(try dsimp only);refine Fa 5 ?_
      ·refine aI (v:= .int .u8 s.x) 4 ((k)*4+1) _ rfl rfl rfl rfl Y4 (jS.sub hx 1 1 (by decide)) rfl (by decide) rfl ?_;refine A1 ?_;refine Nt 9 ?_;refine(Aq (((s.x+ch/16)%256:Nat):Int)) (congrArg some (Td _ _ rfl rfl)) ?_;refine A1 ?_;refine Nt 15 ?_;refine A2 ?_;refine Nt 16 ?_;refine Fg ((k)*4) 1 ?_;refine A1 ?_;exact Nw hd2 () [0,1,2,3,4]
     refine bz (nt:=65) (Z:=Unit) (fun _=>sX [(6,.pointer (some ⟨gn,k*4,none⟩)),(41,.pointer (some ⟨gn,k*4,none⟩)),(42,.pointer (some ⟨gn,k*4,none⟩)),(50,.int .u8 (((s.x+ch/16)%256:Nat):Int)),(53,.pointer (some ⟨gn,k*4+2,none⟩))]) (fun _=>sY [⟨some gn,86,ah jY a,nN,true⟩]) 8 [13,14,15,16,17,18,19,20] (fun z=>?_) (fun hd4=>?_)
     ·(try dsimp only);refine Fa 13 ?_
      ·refine aI (v:= .int .u8 s.y) 4 ((k)*4+2) _ rfl rfl rfl rfl Y4 (jS.sub hx 2 1 (by decide)) rfl (by decide) rfl ?_;refine A1 ?_;refine Nt 14 ?_;refine(Aq (((s.y+1)%256:Nat):Int)) (congrArg some (Td _ _ rfl rfl)) ?_;refine A1 ?_;refine Nt 15 ?_;refine A2 ?_;refine Nt 16 ?_;refine Fg ((k)*4) 1 ?_;refine A1 ?_;exact Nw hd2 () [0,1,2,3,4]
     refine bz (nt:=65) (Z:=Unit) (fun _=>sX [(6,.pointer (some ⟨gn,k*4,none⟩)),(41,.pointer (some ⟨gn,k*4,none⟩)),(42,.pointer (some ⟨gn,k*4,none⟩)),(46,.int .u8 ((s.x:Nat):Int)),(47,.pointer (some ⟨g0,8,none⟩)),(55,.int .u8 (((s.y+1)%256:Nat):Int))]) (fun _=>sY [⟨some gn,86,ah jY a,nN,true⟩]) 9 [7,8,9,15,16,17,18,19,20] (fun z=>?_) (fun hd5=>?_)
     ·(try dsimp only);refine Fa 7 ?_
      ·refine A2 ?_;refine Nt 8 ?_;refine(Dv ((ch/16:Nat):Int)) (by exact(congrArg some (qct _ _ (by omega) rfl rfl))) ?_;refine A1 ?_;refine Nt 9 ?_;refine(Aq (((s.x+ch/16)%256:Nat):Int)) (congrArg some (Td _ _ rfl rfl)) ?_;refine A1 ?_;refine Nt 15 ?_;refine A2 ?_;refine Nt 16 ?_;refine Fg ((k)*4) 1 ?_;refine A1 ?_;exact Nw hd2 () [0,1,2,3,4]
     refine bz (nt:=65) (Z:=Unit) (fun _=>sX [(6,.pointer (some ⟨gn,k*4,none⟩)),(41,.pointer (some ⟨gn,k*4,none⟩)),(42,.pointer (some ⟨gn,k*4,none⟩)),(45,.pointer (some ⟨gn,k*4+1,none⟩)),(47,.pointer (some ⟨g0,8,none⟩)),(55,.int .u8 (((s.y+1)%256:Nat):Int))]) (fun _=>sY [⟨some gn,86,ah jY a,nN,true⟩]) 10 [5,7,8,9,15,16,17,18,19,20] (fun z=>?_) (fun hd6=>?_)
     ·(try dsimp only);refine bT [5,7] (by kernel_rfl) rfl ⟨⟨_,rfl,?_⟩,⟨_,rfl,?_⟩,trivial⟩
      ·refine aI (v:= .int .u8 s.x) 4 ((k)*4+1) _ rfl rfl rfl rfl Y4 (jS.sub hx 1 1 (by decide)) rfl (by decide) rfl ?_;refine A1 ?_;exact Nw hd5 () [0,1,2,3,4]
      ·refine A2 ?_;refine Nt 8 ?_;refine(Dv ((ch/16:Nat):Int)) (by exact(congrArg some (qct _ _ (by omega) rfl rfl))) ?_;refine A1 ?_;exact Nw hd3 () [0,1,2,3,4]
     refine bz (nt:=65) (Z:=Unit) (fun _=>sX [(6,.pointer (some ⟨gn,k*4,none⟩)),(41,.pointer (some ⟨gn,k*4,none⟩)),(42,.pointer (some ⟨gn,k*4,none⟩)),(45,.pointer (some ⟨gn,k*4+1,none⟩)),(49,.int .u8 ((ch/16:Nat):Int)),(53,.pointer (some ⟨gn,k*4+2,none⟩))]) (fun _=>sY [⟨some gn,86,ah jY a,nN,true⟩]) 10 [5,9,13,14,15,16,17,18,19,20] (fun z=>?_) (fun hd7=>?_)
     ·(try dsimp only);refine bT [5,13] (by kernel_rfl) rfl ⟨⟨_,rfl,?_⟩,⟨_,rfl,?_⟩,trivial⟩
      ·refine aI (v:= .int .u8 s.x) 4 ((k)*4+1) _ rfl rfl rfl rfl Y4 (jS.sub hx 1 1 (by decide)) rfl (by decide) rfl ?_;refine A1 ?_;refine Nt 9 ?_;refine(Aq (((s.x+ch/16)%256:Nat):Int)) (congrArg some (Td _ _ rfl rfl)) ?_;refine A1 ?_;exact Nw hd4 () [0,1,2,3,4]
      ·refine aI (v:= .int .u8 s.y) 4 ((k)*4+2) _ rfl rfl rfl rfl Y4 (jS.sub hx 2 1 (by decide)) rfl (by decide) rfl ?_;refine A1 ?_;refine Nt 14 ?_;refine(Aq (((s.y+1)%256:Nat):Int)) (congrArg some (Td _ _ rfl rfl)) ?_;refine A1 ?_;exact Nw hd3 () [0,1,2,3,4]
     refine bz (nt:=65) (Z:=Unit) (fun _=>sX [(6,.pointer (some ⟨gn,k*4,none⟩)),(41,.pointer (some ⟨gn,k*4,none⟩)),(42,.pointer (some ⟨gn,k*4,none⟩)),(46,.int .u8 ((s.x:Nat):Int)),(47,.pointer (some ⟨g0,8,none⟩)),(53,.pointer (some ⟨gn,k*4+2,none⟩))]) (fun _=>sY [⟨some gn,86,ah jY a,nN,true⟩]) 11 [7,8,9,13,14,15,16,17,18,19,20] (fun z=>?_) (fun hd8=>?_)
     ·(try dsimp only);refine bT [7,13] (by kernel_rfl) rfl ⟨⟨_,rfl,?_⟩,⟨_,rfl,?_⟩,trivial⟩
      ·refine A2 ?_;refine Nt 8 ?_;refine(Dv ((ch/16:Nat):Int)) (by exact(congrArg some (qct _ _ (by omega) rfl rfl))) ?_;refine A1 ?_;refine Nt 9 ?_;refine(Aq (((s.x+ch/16)%256:Nat):Int)) (congrArg some (Td _ _ rfl rfl)) ?_;refine A1 ?_;exact Nw hd4 () [0,1,2,3,4]
      ·refine aI (v:= .int .u8 s.y) 4 ((k)*4+2) _ rfl rfl rfl rfl Y4 (jS.sub hx 2 1 (by decide)) rfl (by decide) rfl ?_;refine A1 ?_;refine Nt 14 ?_;refine(Aq (((s.y+1)%256:Nat):Int)) (congrArg some (Td _ _ rfl rfl)) ?_;refine A1 ?_;exact Nw hd5 () [0,1,2,3,4]
     refine Nt 0 ?_;refine A2 ?_;refine Nt 1 ?_;refine A2 ?_;refine Nt 2 ?_;refine A2 ?_;refine Nt 3 ?_;refine A2 ?_;refine Nt 4 ?_;refine Fg ((k)*4) 1 ?_;refine A1 ?_;refine Nt 6 ?_;refine Fg 0 8 ?_;refine A1 ?_;refine Nt 10 ?_;refine A2 ?_;refine Nt 11 ?_;refine A2 ?_;refine Nt 12 ?_;refine Fg ((k)*4) 2 ?_;refine A1 ?_;refine bT [5,7,13] (by kernel_rfl) rfl ⟨⟨_,rfl,?_⟩,⟨_,rfl,?_⟩,⟨_,rfl,?_⟩,trivial⟩
     ·refine aI (v:= .int .u8 s.x) 4 ((k)*4+1) _ rfl rfl rfl rfl Y4 (jS.sub hx 1 1 (by decide)) rfl (by decide) rfl ?_;refine A1 ?_;exact Nw hd8 () [0,1,2,3,4]
     ·refine A2 ?_;refine Nt 8 ?_;refine(Dv ((ch/16:Nat):Int)) (by exact(congrArg some (qct _ _ (by omega) rfl rfl))) ?_;refine A1 ?_;exact Nw hd7 () [0,1,2,3,4]
     ·refine aI (v:= .int .u8 s.y) 4 ((k)*4+2) _ rfl rfl rfl rfl Y4 (jS.sub hx 2 1 (by decide)) rfl (by decide) rfl ?_;refine A1 ?_;refine Nt 14 ?_;refine(Aq (((s.y+1)%256:Nat):Int)) (congrArg some (Td _ _ rfl rfl)) ?_;refine A1 ?_;exact Nw hd6 () [0,1,2,3,4]
    intro _;show At _ ⟨65,[(1,dD g0),(4,dD g1)],[⟨ab,86,pa++ah jY a,aN,false⟩,⟨bb,86,pb++ah jY b,bN,false⟩,⟨some g0,26,[.int .u8 (ta:Nat),.int .u8 (xa:Nat),.int .u8 (ya:Nat),az ab pa.length a.length ac,.int .u8 (tb:Nat),.int .u8 (xb:Nat),.int .u8 (yb:Nat),az bb pb.length b.length bc,.int .u8 (ch:Nat)],9,true⟩,⟨some g1,24,[.int .u8 (ta:Nat),.int .u8 (xa:Nat),.int .u8 (ya:Nat),az (some gn) 0 a.length nc],4,true⟩,⟨some gn,86,ah jY ((a.set k ⟨s.time,(s.x+ch/16)%256,s.y,s.kind⟩).set k (EX ch s)),nN,true⟩]⟩ _;refine A2 ?_;refine Dp [] [0,1,3,2,4,5,6] ?_;refine A1 ?_;refine L4 2 0 ?_;refine L4 3 0 ?_;refine(Sc [0]) (fV ta xa ya hta hxa hya a ab pa aN ac hac ha6 has) (fun z=>?_);obtain⟨ub,uN,uc,huc⟩:=z;refine jr [_] [4] rfl rfl (by show _=[some _];rw[hAl];rfl) (fV ta xa ya hta hxa hya ((a.set k ⟨s.time,(s.x+ch/16)%256,s.y,s.kind⟩).set k (EX ch s)) (some gn) [] nN nc (by rw[hAl];omega) (by rw[hAl];exact ha6) hAo) ⟨pS,trivial⟩ rfl (.inr fun x b hb=>by rw[List.mem_singleton.1 hb]) (fun z=>?_);obtain⟨vb,vN,vc,hvc⟩:=z;refine A5 ?_;refine bF rfl (aj rfl) (aj rfl) (fun w hL=>⟨(⟨ub,uN,uc,huc⟩,⟨vb,vN,vc,by rw[hW];exact hvc⟩),?_,hL.picks [some 5,some 6] ⟨pR,⟨_,rfl,aK (by rw[show ah aJ (pM ta xa ya a tb xb yb b ch)=_ from congrArg _ hW])⟩,trivial⟩ rfl rfl⟩);show Ending.returned (.tuple #[az ub 0 _ uc,az vb 0 _ vc])=Ending.returned (.tuple #[az ub 0 _ uc,az vb 0 (pM ta xa ya a tb xb yb b ch).length vc]);rw[hW]
   ·have hc1:¬1<ch%4:=by have e:=of_decide_eq_false hcQ;omega
    have hW:pM ta xa ya a tb xb yb b ch=jd ta xa ya a:=(KG hch).trans (by rw[qcu (fun e=>hc1 e.2)]);refine A3 ?_;refine Dp [] [0,1,3,2,4,5,6] ?_;refine A1 ?_;refine L4 2 0 ?_;refine L4 3 0 ?_;refine(Sc [0]) (fV ta xa ya hta hxa hya a ab pa aN ac hac ha6 has) (fun z=>?_);obtain⟨ub,uN,uc,huc⟩:=z;refine(Sc [4]) (fV ta xa ya hta hxa hya a nb [] nN nc (by omega) ha6 has) (fun z=>?_);obtain⟨vb,vN,vc,hvc⟩:=z;refine A5 ?_;refine bF rfl (aj rfl) (aj rfl) (fun w hL=>⟨(⟨ub,uN,uc,huc⟩,⟨vb,vN,vc,by rw[hW];exact hvc⟩),?_,hL.picks [some 5,some 6] ⟨pR,⟨_,rfl,aK (by rw[show ah aJ (pM ta xa ya a tb xb yb b ch)=_ from congrArg _ hW])⟩,trivial⟩ rfl rfl⟩);show Ending.returned (.tuple #[az ub 0 _ uc,az vb 0 _ vc])=Ending.returned (.tuple #[az ub 0 _ uc,az vb 0 (pM ta xa ya a tb xb yb b ch).length vc]);rw[hW]
  ·have hl0:¬0<a.length:=by have e:=of_decide_eq_false hbQ;omega
   have hW:pM ta xa ya a tb xb yb b ch=jd ta xa ya a:=(KG hch).trans (by rw[qcu (fun e=>hl0 e.1)]);refine pq ?_;refine Dp [] [0,1,3,2,4,5,6] ?_;refine A1 ?_;refine L4 2 0 ?_;refine L4 3 0 ?_;refine(Sc [0]) (fV ta xa ya hta hxa hya a ab pa aN ac hac ha6 has) (fun z=>?_);obtain⟨ub,uN,uc,huc⟩:=z;refine(Sc [4]) (fV ta xa ya hta hxa hya a nb [] nN nc (by omega) ha6 has) (fun z=>?_);obtain⟨vb,vN,vc,hvc⟩:=z;refine A5 ?_;refine bF rfl (aj rfl) (aj rfl) (fun w hL=>⟨(⟨ub,uN,uc,huc⟩,⟨vb,vN,vc,by rw[hW];exact hvc⟩),?_,hL.picks [some 5,some 6] ⟨pR,⟨_,rfl,aK (by rw[show ah aJ (pM ta xa ya a tb xb yb b ch)=_ from congrArg _ hW])⟩,trivial⟩ rfl rfl⟩);show Ending.returned (.tuple #[az ub 0 _ uc,az vb 0 _ vc])=Ending.returned (.tuple #[az ub 0 _ uc,az vb 0 (pM ta xa ya a tb xb yb b ch).length vc]);rw[hW]
 ·have hch:¬0<ch%4:=by have e:=of_decide_eq_false haQ;omega
  have hW:pM ta xa ya a tb xb yb b ch=jd tb xb yb b:=qfL hch;refine A3 ?_;refine Dp [] [0,1,3,2,4,5,6] ?_;refine A1 ?_;refine L4 2 0 ?_;refine L4 3 0 ?_;refine(Sc [0]) (fV ta xa ya hta hxa hya a ab pa aN ac hac ha6 has) (fun z=>?_);obtain⟨ub,uN,uc,huc⟩:=z;refine(Sc [1]) (fV tb xb yb htb hxb hyb b bb pb bN bc hbc hb6 hbs) (fun z=>?_);obtain⟨vb,vN,vc,hvc⟩:=z;refine A5 ?_;refine bF rfl (aj rfl) (aj rfl) (fun w hL=>⟨(⟨ub,uN,uc,huc⟩,⟨vb,vN,vc,by rw[hW];exact hvc⟩),?_,hL.picks [some 4,some 5] ⟨pR,⟨_,rfl,aK (by rw[show ah aJ (pM ta xa ya a tb xb yb b ch)=_ from congrArg _ hW])⟩,trivial⟩ rfl rfl⟩);show Ending.returned (.tuple #[az ub 0 _ uc,az vb 0 _ vc])=Ending.returned (.tuple #[az ub 0 _ uc,az vb 0 (pM ta xa ya a tb xb yb b ch).length vc]);rw[hW]
end Go.Proofs.YtaffcpfhedadhaaGreatDoor
namespace Go.Via
open Go
structure qmU(m:Int)(lo hi:Int->Int)(w u:PU):Prop where
 f:iF w.i.f
 t:iF w.i.t
 b:aT jk w.i.b=lo (aT jk u.i.b)
 e:aT jk w.i.e=hi (aT jk u.i.e)
 lt:aT jk w.i.b<aT jk w.i.e
 agr:w.f=u.f∨(2*m<=aT jk w.i.b∧aT jk w.i.e<=2*m+1∧vT (qx w.f) (m:Rat)=vT (qx u.f) (m:Rat)∧vT (qy w.f) (m:Rat)=vT (qy u.f) (m:Rat))
structure qmi(z x:Iv×Qd):Prop where
 f:iF z.1.f
 t:iF z.1.t
 lt:aT jk z.1.b<aT jk z.1.e
 b:aT jk x.1.b<=aT jk z.1.b
 e:aT jk z.1.e<=aT jk x.1.e
 same:bg (z.1,x.2)=bg z
end Go.Via
namespace Go.Via
open Go
structure qmV(l:List oL)(M:Rat):Prop where
 le:∀p∈l,∀u,p.a=rl u∨p.b=rl u->u<=M
 mem:∃p∈l,p.a=rl M∨p.b=rl M
section
variable{m:Int}{a b:List PU}
theorem qcy{a b:List PU}{z:Iv×Qd}:z∈flatK tH a b↔∃x∈a,∃y∈b,tH x y=some z:=by
 unfold flatK;rw[List.mem_flatMap]
 constructor
 ·rintro⟨x,hx,h⟩;obtain⟨y,hy,e⟩:=List.mem_filterMap.1 h;exact⟨x,hx,y,hy,e⟩
 ·rintro⟨x,hx,y,hy,e⟩;exact⟨x,hx,List.mem_filterMap.2 ⟨y,hy,e⟩⟩
end
end Go.Via
namespace Go.Via
open Go
def Tf{f:Ln}{t:Rl}(hf:ja f<=15)(ht:gz t<=2):ja (iU f t)<=38:=by
 have h3:=rD t;have a0:=qK f;have a1:=qL f;have a2:=qM f;have a3:=qO f;have z:=vX;have h1:bV (vT (qx f) t.p)<=38:=by
  have h:=wV (qx f) t.p;have e:bV (qx f).c2<=2:=z;have e0:bV (qx f).c0=bV f.x0:=rfl;have e1:bV (qx f).c1=bV f.x1:=rfl;omega
 have h2:bV (vT (qy f) t.p)<=38:=by
  have h:=wV (qy f) t.p;have e:bV (qy f).c2<=2:=z;have e0:bV (qy f).c0=bV f.y0:=rfl;have e1:bV (qy f).c1=bV f.y1:=rfl;omega
 unfold iU
 split
 ·show max (max (bV (vT (qx f) t.p)) (bV 0)) (max (bV (vT (qy f) t.p)) (bV 0))<=38;omega
 ·omega
def qiC(l:List PU):Prop:=∀u∈l,jB u.i<=2∧ja u.f<=38
section
variable{t x y:Nat}{l:List rJ}
def PV(h6:l.length<=6):qiC (jd t x y l):=fun u hu=>by
 have he:=NW h6 u hu;refine⟨wW he.1.2 he.2.2,?_⟩;rw[xX h6] at hu;refine Ns (P:=fun f=>ja f<=38) (fun v hv=>?_) u hu;have h:=Du (l:=l) (Ko h6) (o:=[]) (by simp) v hv;exact⟨Nat.le_trans h.2.2 (by omega),Tf h.2.2 h.1.2,Tf h.2.2 h.2.1.2⟩
end
structure Fl(A B:List PU):Prop where
 sa:Fb A
 sb:Fb B
 H:EW A B
 la:A.length<=21
 lb:B.length<=21
 za:qiC A
 zb:qiC B
def EW.swap{A B:List PU}(H:EW A B):EW B A:=⟨H.sb,H.sa,H.eb,H.ea⟩
def Fl.swap{A B:List PU}(F:Fl A B):Fl B A:=⟨F.sb,F.sa,F.H.swap,F.lb,F.la,F.zb,F.za⟩
section
variable{ta xa ya tb xb yb ch:Nat}{a b:List rJ}
def qiD(ha:a.length<=6)(hb:b.length<=6):Fl (jd ta xa ya a) (pM ta xa ya a tb xb yb b ch):=
 ⟨Ku ha,qcw ha hb,qcx,Kv ha,qcv ha hb,PV ha,by
 unfold pM;split
 ·exact PV (by rw[PT];exact ha)
 ·exact PV hb⟩
end
abbrev Dw(A B:List PU):List oL:=(ay A B).map bg
section
variable{A B:List PU}
theorem Fl.flat(F:Fl A B):ay A B=flatK tH A B:=kY o5 F.H.sa F.H.sb F.H.ea F.H.eb
def Fl.PS(F:Fl A B):∀x∈ay A B,(iF x.1.f∧iF x.1.t)∧aT jk x.1.b<aT jk x.1.e:=fun x hx=>by
 rw[F.flat] at hx;exact Ii o5 F.H.ea F.H.eb x hx
def Fl.cS(F:Fl A B):∀p∈Dw A B,iF p.i.f∧iF p.i.t:=fun p hp=>by
 obtain⟨x,hx,rfl⟩:=List.mem_map.1 hp;exact(F.PS x hx).1
theorem Fl.ps(F:Fl A B):∀z∈ay A B,jB z.1<=2∧tJ z.2<=324:=fun z hz=>by
 rw[F.flat,qcy] at hz;obtain⟨x,hx,y,hy,e⟩:=hz;unfold tH iT at e
 split at e
 ·simp at e;subst e;exact⟨Sj (F.za x hx).1 (F.zb y hy).1,Nat.le_trans (qbK (F.za x hx).2 (F.zb y hy).2) (by omega)⟩
 ·simp at e
def qgC{f:Qd}{t:Rl}(ht:iF t)(hf:tJ f<=324)(hz:gz t<=2):gz (Nq f t)<=1000:=by
 obtain⟨z,rfl⟩:=ht;rw[FV];have h:=wV f (z:Rat);have h0:=o7 f;have h1:=o8 f;have h2:=pV f;have h3:bV (z:Rat)<=2:=Nat.le_trans (rD (rl (z:Rat))) hz;exact wS (by omega) (by omega)
def Fl.sz(F:Fl A B):∀p∈Dw A B,jB p.i<=1000∧gz p.a<=1000∧gz p.b<=1000:=fun p hp=>by
 obtain⟨x,hx,rfl⟩:=List.mem_map.1 hp;obtain⟨h1,h2⟩:=F.ps x hx;obtain⟨h3,h4⟩:=(F.PS x hx).1;exact⟨Nat.le_trans h1 (by omega),qgC h3 h2 (Nat.le_trans (jI _) h1),qgC h4 h2 (Nat.le_trans (jJ _) h1)⟩
theorem Fl.n(F:Fl A B):(Dw A B).length<=42:=by
 have h:=tK A B;have h1:=F.la;have h2:=F.lb;rw[List.length_map];omega
def Fl.ne(h:(Dw A B).length≠0):ay A B≠[]:=fun e=>h (by rw[Dw,e];rfl)
def Fl.mostz(F:Fl A B):gz (xI (Dw A B))<=1000:=by
 by_cases h:ay A B=[]
 ·rw[Dw,h];exact wS (Nat.le_trans vX (by omega)) (by omega)
 ·rw[JX F.H.sa F.H.sb F.H.ea F.H.eb h];obtain⟨p,hp,e⟩:=YI (l:=Dw A B) (by intro e;exact h (List.map_eq_nil_iff.1 e));have:=F.sz p hp;rcases e with e|e<;>rw[e]
  ·exact this.2.1
  ·exact this.2.2
theorem Fl.most(F:Fl A B)(h:(Dw A B).length≠0):fD (Dw A B)=xI (Dw A B):=(JX F.H.sa F.H.sb F.H.ea F.H.eb (Fl.ne h)).symm
def Fl.greatz(F:Fl A B)(h:(Dw A B).length≠0):gz (fD (Dw A B))<=1000:=by rw[F.most h];exact F.mostz
theorem Fl.ok(F:Fl A B)(h:(Dw A B).length≠0):uZ A B (Dw A B) (fD (Dw A B))=0:=qbw F.H.sa F.H.sb F.H.ea F.H.eb (Fl.ne h)
def Fl.comm(F:Fl A B):Dw B A=Dw A B:=by rw[Dw,Dw,RU F.H.sa F.H.sb F.H.ea F.H.eb]
theorem Fl.nil(F:Fl A B)(h:(Dw A B).length=0)(c:List oL)(m:Rl):uZ A B c m=36:=by
 unfold uZ;rw[if_pos (by rw[List.map_eq_nil_iff.1 (List.length_eq_zero_iff.1 h)];rfl)]
def Fl.greatz0(F:Fl A B):gz (fD (Dw A B))<=1000:=by
 by_cases h:(Dw A B).length=0
 ·rw[List.length_eq_zero_iff.1 h];exact wS (Nat.le_trans vX (by omega)) (by omega)
 ·exact F.greatz h
theorem Fl.with(F:Fl A B){x:Rl}(h:decide (bK (xI (Dw A B)) x<=0)=true):((if(Dw A B).length=0 then(36:Int) else 0) !=0||decide (bK (fD (Dw A B)) x<=0))=true:=by
 by_cases h0:(Dw A B).length=0
 ·rw[if_pos h0];rfl
 ·rw[F.most h0,h,Bool.or_true]
def Fl.notC(F:Fl A B):(uZ A B (Dw A B) (xI (Dw A B)) !=30)=true:=by
 by_cases h0:(Dw A B).length=0
 ·rw[F.nil h0];decide
 ·rw[<-F.most h0,F.ok h0];decide
def Fl.sz5(F:Fl A B):∀p∈Dw A B,jB p.i<=5000∧gz p.a<=5000∧gz p.b<=5000:=fun p hp=>by
 have h:=F.sz p hp;omega
end
end Go.Via
namespace Go.Proofs.YtaffcpfhedadhaaGreatDoor
open Go Go.RowKit Go.Via
def qcz{ta xa ya tb xb yb ch:Nat}{a b:List rJ}{A B:List PU}(hA:jd ta xa ya a=A)(hB:pM ta xa ya a tb xb yb b ch=B)(hta:ta<256)(hxa:xa<256)(hya:ya<256)(htb:tb<256)(hxb:xb<256)(hyb:yb<256)(hch:ch<256)
 {ab:Option Nat}{pa:List Value}(aN ac:Nat)(hac:a.length<=ac)(ha6:a.length<=6)(has:∀s∈a,YW s){bb:Option Nat}{pb:List Value}(bN bc:Nat)(hbc:b.length<=bc)(hb6:b.length<=6)(hbs:∀s∈b,YW s):
 bW Tryz.prog 13 [⟨ab,86,pa++ah jY a,aN,false⟩,⟨bb,86,pb++ah jY b,bN,false⟩] [.agg #[.int .u8 (ta:Nat),.int .u8 (xa:Nat),.int .u8 (ya:Nat),az ab pa.length a.length ac,.int .u8 (tb:Nat),.int .u8 (xb:Nat),.int .u8 (yb:Nat),az bb pb.length b.length bc,.int .u8 (ch:Nat)]] (SR A.length×SR B.length) (fun z=> .tuple #[z.1.v,z.2.v]) (fun z=>[⟨z.1.b,100,ah aJ A,z.1.n,true⟩,⟨z.2.b,100,ah aJ B,z.2.n,true⟩]):=by
 subst hA;subst hB;exact KH ta xa ya tb xb yb ch hta hxa hya htb hxb hyb hch a ab pa aN ac hac ha6 has b bb pb bN bc hbc hb6 hbs
section
variable{A B:List PU}
def qmj(F:Fl A B)(ub:Option Nat)(uN uc:Nat)(huc:A.length<=uc)(vb:Option Nat)(vN vc:Nat)(hvc:B.length<=vc)(c:List oL)(cb:Option Nat)(cN cc:Nat)(hcc:c.length<=cc)(hn:c.length<=42)(m:Rl)(hsz:∀p∈c,jB p.i<=5000∧gz p.a<=5000∧gz p.b<=5000)(hm:gz m<=5000)(hS:∀p∈c,iF p.i.f∧iF p.i.t){e:Int}(he:uZ A B c m=e):
 bW Tryz.prog 16 [⟨ub,100,ah aJ A,uN,false⟩,⟨vb,100,ah aJ B,vN,false⟩,⟨cb,63,ah aY c,cN,false⟩] [az ub 0 A.length uc,az vb 0 B.length vc,CfV (az cb 0 c.length cc) m] Unit (fun _=> .int .i64 e) (fun _=>[]):=by
 subst he;exact uP o5 A ub uN uc huc (Nat.le_trans F.la (by omega)) B vb vN vc hvc (Nat.le_trans F.lb (by omega)) F.sa F.sb F.H c cb cN cc hcc (by omega) m hsz hm F.PS hS
end
end Go.Proofs.YtaffcpfhedadhaaGreatDoor
namespace Go.Via
open Go
def U2(x:Rl):Int:=tu x.p (nZ x) x.r
def lJ(x:Rl):Int:=
 (if x.n=true then x.p.num*x.r.den-((bQ ((x.p.den*x.p.den)*(x.r.num.natAbs*x.r.den)):Nat)+1) else x.p.num*x.r.den+(bQ ((x.p.den*x.p.den)*(x.r.num.natAbs*x.r.den)):Nat))/((x.p.den*x.r.den:Nat):Int)
def dI(q:Qd):List Rl:=
 if q.c2=0 then(if q.c1=0 then[] else[rl (-(q.c0/q.c1))]) else
 let h:=q.c1/(-2*q.c2)
 let r:=h*h-q.c0/q.c2
 if r<0 then[] else if r=0 then[rl h] else[mkR h (-1) r,mkR h 1 r]
def su(x y:Rl):Option Rat:=
 if dN x=true∧dN y=true∧gz x<=1000∧gz y<=1000∧¬U2 x<0∧0<U2 y∧0<bK y (rl ((lJ x+1:Int):Rat))∧x.n=false∧jm (lJ x)<=4000 then some ((lJ x+1:Int):Rat) else none
def EY(sm:Rl->Rl->Option Rat)(q:Qd)(i:Iv):Option Int:=
 if bK i.f i.t<0 then(sm i.f i.t).bind fun r=>if bV r<=5000 then some (U2 (Nq q (rl r))) else none else none
def gV(sm:Rl->Rl->Option Rat)(q:Qd)(i:Iv):List Rl->Iv->List (Iv×Int)->Option (List (Iv×Int))
 |[],rest,out=>if jP rest=true then(EY sm q rest).map fun s=>out++[(rest,s)] else some out
 |r::rs,rest,out=>
  if UO i r=false then gV sm q i rs rest out else
  if bK rest.f r<0 then(EY sm q ⟨rest.f,r,rest.fo,true⟩).bind fun s=>gV sm q i rs ⟨r,rest.t,true,rest.tp⟩ (out++[(⟨rest.f,r,rest.fo,true⟩,s),(⟨r,r,false,false⟩,0)])
  else gV sm q i rs ⟨r,rest.t,true,rest.tp⟩ (out++[(⟨r,r,false,false⟩,0)])
def qmk(l:List Iv)(i:Iv):List Iv:=match l.getLast? with
 |some u=>l.dropLast++[⟨u.f,i.t,u.fo,i.tp⟩]
 |none=>l
def mV(a b c:Bool)(s:Int):Bool:=if s<0 then a else if s=0 then b else c
def nI(w:Int->Bool):List (Iv×Int)->List Iv->Bool->List Iv
 |[],out,_=>out
 |p::ps,out,before=>if w p.2=true then nI w ps (if before=true then qmk out p.1 else out++[p.1]) true else nI w ps out false
def rU(sm:Rl->Rl->Option Rat)(w:Int->Bool)(q:Qd)(i:Iv):Option (List Iv):=(gV sm q i (dI q) i []).map fun l=>nI w l [] false
def KI(sm:Rl->Rl->Option Rat)(r:Rat):List (Iv×Qd)->Option (List Iv)
 |[]=>some []
 |x::l=>(rU sm (mV false false true) (o9 x.2 ⟨r*r,0,0⟩) x.1).bind fun a=>(KI sm r l).map fun b=>a++b
end Go.Via
namespace Go.Via
open Go
def qP(n:Int):Rat.divInt n 1=(n:Rat):=by have h:=Rat.num_divInt_den (n:Rat);rw[Rat.num_intCast,Rat.den_intCast] at h;exact h
def Xh(t:Rl)(a b:Bool):kG ⟨rl 0,t,a,b⟩= .agg #[aO,aP,aO,aP,aO,aP,aO,aP,.bool false,.bool (decide (t.p.num<0)),.string (bH t.p.num.natAbs),.bool false,.string (dm t.p),.bool (decide (t.r.num<0)),.string (bH t.r.num.natAbs),.bool false,.string (dm t.r),.bool t.n,.bool a,.bool b]:=by
 unfold kG rl;simp only[RX,dm0,RY]
def qiE(q:Rat):xh ⟨0,q,0,0⟩= .agg #[aO,aP,aO,aP,.bool (decide (q.num<0)),.string (bH q.num.natAbs),.bool false,.string (dm q),aO,aP,aO,aP,aO,aP,aO,aP]:=by
 unfold xh;simp only[RX,dm0,RY]
def qiF(q:Rat):xh ⟨0,0,q,0⟩= .agg #[aO,aP,aO,aP,aO,aP,aO,aP,.bool (decide (q.num<0)),.string (bH q.num.natAbs),.bool false,.string (dm q),aO,aP,aO,aP]:=by
 unfold xh;simp only[RX,dm0,RY]
def qky(p q r:Rat):xh ⟨p,q,r,0⟩= .agg #[.bool (decide (p.num<0)),.string (bH p.num.natAbs),.bool false,.string (dm p),.bool (decide (q.num<0)),.string (bH q.num.natAbs),.bool false,.string (dm q),.bool (decide (r.num<0)),.string (bH r.num.natAbs),.bool false,.string (dm r),aO,aP,aO,aP]:=by
 unfold xh;simp only[RX,dm0,RY]
def rz(n:Int):Rl:=rl (n:Rat)
def qkz{n:Int}(h1: -255<=n)(h2:n<=255):gz (rz n)<=2:=wS (mY h1 h2) (Nat.le_refl _)
def eA1:PU:=⟨⟨rl 0,rz 4,false,false⟩,⟨0,((1:Int):Rat),0,0⟩⟩
def eB1:PU:=⟨⟨rl 0,rz 2,false,false⟩,⟨0,0,((3:Int):Rat),0⟩⟩
def eB2:PU:=⟨⟨rz 2,rz 4,true,false⟩,⟨((-4:Int):Rat),((2:Int):Rat),((3:Int):Rat),0⟩⟩
end Go.Via
namespace Go.Proofs.YtaffcpfhedadhaaGreatDoor
open Go Go.RowKit Go.Via
def iC(n:Int)(h1: -255<=n:=by omega)(h2:n<=255:=by omega):aH Tryz.prog 36 #[.int .i64 n] (RV (rz n)):=by
 refine uX 6 Tryz.func36 fun w=>?_;refine A2 ?_;refine Al 9 OD (fun g0=>?_);refine A5 ?_;refine Pc (iP n 1) ?_;refine aQ 4 (Q (n:Rat)) rfl (congrArg Q (qP n)) ?_;refine(Bu [(0,_)]) (FD) ?_;refine Ss 0 ?_;refine A3 ?_;refine Ed9 0 ?_;exact congrArg Ending.returned (JV (n:Rat)).symm
def Hz:bW Tryz.prog 39 [] [] (SR [eA1].length×SR [eB1,eB2].length) (fun z=> .tuple #[z.1.v,z.2.v]) (fun z=>[⟨z.1.b,100,ah aJ [eA1],z.1.n,true⟩,⟨z.2.b,100,ah aJ [eB1,eB2],z.2.n,true⟩]):=by
 refine sB0 24 Tryz.func39 fun w hL0=>?_;refine A8 ?_;refine Pc (iC 4) ?_;refine(Bu [(1,_)]) (OG) ?_;refine aQ 3 (kG eA1.i) rfl (Xh _ _ _).symm ?_;refine Pc (iP 1 1) ?_;refine aQ 4 (Q ((1:Int):Rat)) rfl (congrArg Q (qP 1)) ?_;refine(Bu [(1,_)]) (qdF) ?_;refine aQ 5 (xh eA1.f) rfl (qiE _).symm ?_;refine(Bu [(0,_),(1,_)]) (vF) ?_;refine Kr 6 (UG eA1) ?_;refine(Bl 36 [(0,_)]) (CS) (fun g0=>?_);refine A5 ?_;refine Pc (iC 2) ?_;refine(Bu [(1,_)]) (OG) ?_;refine aQ 9 (kG eB1.i) rfl (Xh _ _ _).symm ?_;refine Pc (iP 3 1) ?_;refine aQ 10 (Q ((3:Int):Rat)) rfl (congrArg Q (qP 3)) ?_;refine(Bu [(2,_)]) (qdG) ?_;refine aQ 11 (xh eB1.f) rfl (qiF _).symm ?_;refine(Bu [(0,_),(1,_)]) (vF) ?_;refine Kr 12 (UG eB1) ?_;refine Pc (iC 2) ?_;refine Pc (iC 4) ?_;refine(Bu [(0,_),(1,_),(2,_)]) (TY) ?_;refine Kr 15 (kG eB2.i) ?_;refine Pc (iP (-4) 1) ?_;refine aQ 16 (Q (((-4):Int):Rat)) rfl (congrArg Q (qP (-4))) ?_;refine Pc (iP 2 1) ?_;refine aQ 17 (Q ((2:Int):Rat)) rfl (congrArg Q (qP 2)) ?_;refine Pc (iP 3 1) ?_;refine aQ 18 (Q ((3:Int):Rat)) rfl (congrArg Q (qP 3)) ?_;refine(Bu [(0,_),(1,_),(2,_)]) (qhh) ?_;refine aQ 19 (xh eB2.f) rfl (qky _ _ _).symm ?_;refine(Bu [(0,_),(1,_)]) (vF) ?_;refine Kr 20 (UG eB2) ?_;refine(Bl 72 [(0,_),(1,_)]) (qhj) (fun g1=>?_);refine lw ?_;refine bF rfl (aj rfl) (aj rfl) (fun w hL=>⟨(⟨some g0,36,1,Nat.le_refl _⟩,⟨some g1,72,2,Nat.le_refl _⟩),?_,hL.pk [some 0,some 1]⟩);exact rfl
def rH(x:Rl)(r:Rat)(hx:gz x<=50000:=by omega)(hr:bV r<=20000:=by omega):aH Tryz.prog 68 #[RV x,Q r] (.bool (decide (bK x (rl (r*r))<=0))):=by
 have h2:=sO hr hr;refine nG 11 Tryz.func68 fun w=>?_;refine A2 ?_;refine Bp 9 (fun g0=>?_);refine Bp 4 (fun g1=>?_);refine A4 ?_;refine Di [] ?_;refine L9 0 0 ?_;refine L4 1 0 ?_;refine L4 1 0 ?_;refine Pc (aX r r) ?_;refine Pc (vY x (r*r) hx) ?_;refine A5 ?_;refine E0 ?_;exact rfl
def oC(cb:Option Nat)(cn cc:Nat)(x:Rl)(r:Rat)(hx:gz x<=50000:=by omega)(hr:bV r<=20000:=by omega):aH Tryz.prog 26 #[CfV (az cb 0 cn cc) x,Q r] (.bool (decide (bK x (rl (r*r))<=0))):=by
 refine nG 9 Tryz.func26 fun w=>?_;refine A2 ?_;refine Bp 10 (fun g0=>?_);refine Bp 4 (fun g1=>?_);refine A6 ?_;refine L9 0 1 ?_;refine L4 1 0 ?_;refine Pc (rH x r hx hr) ?_;refine A4 ?_;refine E0 ?_;exact rfl
def BK(a:List PU)(ab:Option Nat)(aN ac:Nat)(hac:a.length<=ac)(han:a.length<=400)(b:List PU)(bb:Option Nat)(bN bc:Nat)(hbc:b.length<=bc)(hbn:b.length<=400)(hsa:Fb a)(hsb:Fb b)(ea:SI a)(eb:SI b)(r:Rat)(hr:bV r<=20000:=by omega)(hg:gz (fD ((ay a b).map bg))<=50000:=by omega):bW Tryz.prog 28 [⟨ab,100,ah aJ a,aN,false⟩,⟨bb,100,ah aJ b,bN,false⟩] [az ab 0 a.length ac,az bb 0 b.length bc,Q r] Unit (fun _=> .bool ((if((ay a b).map bg).length=0 then(36:Int) else 0) !=0||decide (bK (fD ((ay a b).map bg)) (rl (r*r))<=0))) (fun _=>[]):=by
 refine sB3 23 Tryz.func28 fun w hL0=>?_;refine A2 ?_;refine Bp 4 (fun g0=>?_);refine A7 ?_;refine(Sc [0,1]) (uM a ab aN ac hac han b bb bN bc hbc hbn hsa hsb ea eb) (fun z=>?_);obtain⟨cb,cN,cc,hcc⟩:=z;refine A3 ?_;refine Al 10 z40 (fun g1=>?_);refine Ss 4 ?_;refine A8 ?_;refine Rs 17 ?_ ?_<;>intro haQ
 ·have hw:=haQ;refine A9 ?_;refine aF rfl (aj rfl) (fun w hL=>⟨(),?_,hL.pk []⟩);exact congrArg (fun z=>Ending.returned (.bool z)) (by rw[hw];rfl)
 ·have hw:=haQ;refine A1 ?_;refine L9 4 1 ?_;refine L4 2 0 ?_;refine Pc (rH (fD ((ay a b).map bg)) r hg hr) ?_;refine A5 ?_;refine aF rfl (aj rfl) (fun w hL=>⟨(),?_,hL.pk []⟩);exact congrArg (fun z=>Ending.returned (.bool z)) (by rw[hw];rfl)
end Go.Proofs.YtaffcpfhedadhaaGreatDoor
namespace Go.Via
open Go
def LD(n e:Int)(up dn:Nat):Rat:=Rat.divInt (n*256^(up%9)) ((if e=0 then 1 else e)*256^(dn%9))
abbrev ICc(z:Int):List Value:=[.bool (decide (z<0)),.string (bH z.natAbs)]
def N7{n:Nat}(h:n≠0):sK n++[0]=sK (n*256):=by
 unfold sK;rw[oQ (n:=n*256) (by omega) (by omega),Nat.mul_mod_left,Nat.mul_div_cancel n (by omega),List.reverse_cons,List.map_append]
 rfl
def Xi{z n:Int}(h:z≠0)(i:Nat)(hz:z=n*256^i):[.bool (decide (z<0)),.string (lm (sK (z.natAbs*256)))]=ICc (n*256^(i+1)):=by
 have e:n*256^(i+1)=z*256:=(by rw[hz,Int.pow_succ,Int.mul_assoc]);rw[e];show[Value.bool _,Value.string (bH (z.natAbs*256))]=[Value.bool _,Value.string _];rw[Int.natAbs_mul,decide_eq_decide.2 (show z<0↔z*256<0 by omega)];rfl
def N8{z n:Int}{i:Nat}(hz:z=n*256^i)(hn1: -9223372036854775808<=n)(hn2:n<=9223372036854775807)(hi:i<=8):nb z.natAbs<=16:=by
 have h:z.natAbs<256^16:=by
  rw[hz,Int.natAbs_mul,Int.natAbs_pow];have h1:n.natAbs<=256^8-1:=by omega
  have h2:(256:Int).natAbs^i<=256^8:=Nat.pow_le_pow_right (by decide) hi;have h3:=Nat.mul_le_mul h1 h2;omega
 exact iE (by omega) h
def qiG{n e:Int}{up dn:Nat}(hn1: -9223372036854775808<=n)(hn2:n<=9223372036854775807)(he1: -9223372036854775808<=e)(he2:e<=9223372036854775807):bV (LD n e up dn)<=40:=by
 have h1:=N8 (z:=n*256^(up%9)) rfl hn1 hn2 (by omega);have h2:=N8 (z:=(if e=0 then 1 else e)*256^(dn%9)) (n:=if e=0 then 1 else e) rfl (by split<;>omega) (by split<;>omega) (by omega)
 exact Nat.le_trans (tY (a:=16) (b:=16) h1 h2 (by omega)) (by omega)
def qml{e E:Int}(h:E=if e=0 then 1 else e):E≠0:=by subst h;split<;>omega
def qcB{E:Int}(h:E≠0)(j:Nat):E*256^j≠0:=Int.mul_ne_zero h (Int.pow_ne_zero (by omega))
def yV(q:Rat):Rat:=if q.num.sign<0 then-q else q
def qcC{q:Rat}(h:decide (q.num.sign<0)=true):yV q= -q:=if_pos (of_decide_eq_true h)
def qcD{q:Rat}(h:decide (q.num.sign<0)=false):yV q=q:=if_neg (of_decide_eq_false h)
def qfM{q:Rat}{n:Nat}(h:bV q<=n):bV (yV q)<=n:=by
 unfold yV;split
 ·have:=dX q;omega
 ·exact h
def qgD{i:Nat}(h:i<9):IntKind.u8.wrap ((i:Int)+1)=((i+1:Nat):Int):=by simp[IntKind.wrap,IntKind.bits,IntKind.signed];omega
end Go.Via
