/-
  Part 40 (chapter 32): lemmas, walks. Each theorem states its own conditions.
-/
import Derived.Shelf.SlSortCmp.WholeK
import Derived.Shelf.SlSortCmp.NoneTotal
import Derived.Lib.Repeat
import Derived.Sort.Grow
import Derived.Sort.EncStr
import Derived.Lib.SliceRun
import Derived.Test.YtaffcpfhedadhaaGreatDoorA38
set_option linter.all false
set_option maxRecDepth 20000
set_option maxHeartbeats 20000000
namespace Go.Proofs.YtaffcpfhedadhaaGreatDoor
open Go Go.RowKit Go.Via
def PR(ta xa ya tb xb yb ch:Nat)(hta:ta<256)(hxa:xa<256)(hya:ya<256)(htb:tb<256)(hxb:xb<256)(hyb:yb<256)(hch:ch<256)(a:List ug)(ab:Option Nat)(pa:List Value)(aN ac:Nat)(hac:a.length<=ac)(ha6:a.length<=6)(has:∀s∈a,okS s)(b:List ug)(bb:Option Nat)(pb:List Value)(bN bc:Nat)(hbc:b.length<=bc)(hb6:b.length<=6)(hbs:∀s∈b,okS s):bQ Tryz.prog 13 [⟨ab,86,pa++ai jZ a,aN,false⟩,⟨bb,86,pb++ai jZ b,bN,false⟩] [.agg #[.int .u8 (ta:Nat),.int .u8 (xa:Nat),.int .u8 (ya:Nat),aB ab pa.length a.length ac,.int .u8 (tb:Nat),.int .u8 (xb:Nat),.int .u8 (yb:Nat),aB bb pb.length b.length bc,.int .u8 (ch:Nat)]] (SR (jF ta xa ya a).length×SR (qU ta xa ya a tb xb yb b ch).length) (fun z=> .tuple #[z.1.v,z.2.v]) (fun z=>[⟨z.1.b,100,ai aK (jF ta xa ya a),z.1.n,true⟩,⟨z.2.b,100,ai aK (qU ta xa ya a tb xb yb b ch),z.2.n,true⟩]):=by
 refine Qg 65 Tryz.func13 fun w hL0=>?_;refine A2 ?_;refine Bp 9 (fun g0=>?_);refine A7 ?_;refine L4 2 4 ?_;refine Al 4 z24 (fun g1=>?_);refine Ss 3 ?_;refine A7 ?_;refine(Dv ((ch%4:Nat):Int)) (congrArg some (lW _ _ rfl rfl)) ?_;refine A3 ?_;refine Cd ?_ ?_<;>intro hb0
 ·have hch:0<ch%4:=by have e:=of_decide_eq_true hb0;omega
  refine A3 ?_;refine L4 2 0 ?_;refine Ss 3 ?_;refine A3 ?_;refine qh 0 rfl (fun hba=>?_);have hab:=qe0 jU (by decide) pa hba;refine A1 ?_;refine(Bl 0 []) (qsd) (fun g2=>?_);refine A3 ?_;refine jl (s:=4) (len:=0) 4 0 (ai jZ a) (fun r=>[_,_,_,_,⟨r.b,86,ai jZ a,r.n,true⟩]) u22 qxE rfl rfl rfl rfl rfl rfl rfl rfl rfl rfl rfl (Nat.le_refl _) (Nat.le_refl _) hab (by rw[List.drop_left];exact List.take_of_length_le (by rw[jU.length];exact Nat.le_refl _)) (jU.length a) (jU.ones _) (by omega) (fun _=>rfl) (fun r=>?_);obtain⟨nb,nN,nc,hnc,hnN⟩:=r;refine aP 19 (aB nb 0 a.length nc) rfl (congrArg (fun z=>aB nb 0 z nc) (Nat.zero_add _)) ?_;refine A1 ?_;refine Ss 3 ?_;refine II ?_;refine Rs 26 ?_ ?_<;>intro hb1
  ·have hl0:0<a.length:=by have e:=of_decide_eq_true hb1;omega
   refine A2 ?_;refine(Dv ((ch%4:Nat):Int)) (congrArg some (lW _ _ rfl rfl)) ?_;refine A4 ?_;refine Cd ?_ ?_<;>intro hb2
   ·have hc1:1<ch%4:=by have e:=of_decide_eq_true hb2;omega
    obtain⟨k,hk⟩:∃k,k=ch/4%a.length:=⟨_,rfl⟩;have hkl:k<a.length:=hk▸Nat.mod_lt _ hl0;obtain⟨s,hx⟩:∃s,a[k]? =some s:=⟨a[k],List.getElem?_eq_getElem hkl⟩;obtain⟨hs1,hs2,hs3,hs4⟩:=has s (List.mem_of_getElem? hx);have hcA:=qpF hl0 hc1 hk hx;have hW:qU ta xa ya a tb xb yb b ch=jF ta xa ya ((a.set k ⟨s.time,(s.x+ch/16)%256,s.y,s.kind⟩).set k (Iy ch s)):=(PH hch).trans (by rw[hcA]);have hAo:∀v∈((a.set k ⟨s.time,(s.x+ch/16)%256,s.y,s.kind⟩).set k (Iy ch s)),okS v:=fun v hv=>qua has v (by rw[hcA];exact hv)
    have hAl:((a.set k ⟨s.time,(s.x+ch/16)%256,s.y,s.kind⟩).set k (Iy ch s)).length=a.length:=(by simp only[List.length_set]);refine A1 ?_;refine dK 4 rfl (jU.ne (by decide) hl0) (fun hbs=>?_);obtain⟨gn,hgn⟩:=Option.isSome_iff_exists.1 hbs;replace hgn:nb=some gn:=hgn;subst hgn;refine Di [] ?_;refine A4 ?_;refine(Dv ((ch/4:Nat):Int)) (by exact(congrArg some (qlu _ _ (by omega) rfl rfl))) ?_;refine(Cv ((ch/4:Nat):Int) u5 u3) (by exact(wi (by omega) (by omega) rfl)) ?_;refine A1 ?_;refine(Dv (k:Int)) (congrArg some ((lW _ _ rfl rfl).trans (congrArg Nat.cast hk.symm))) ?_;refine aJ 4 ((k)*4) u22 qr4 rfl rfl rfl rfl rfl (by omega) (by omega) (jU.ne (by decide) (by omega)) (by show 0+Int.toNat _*4=_;omega) ?_;refine A3 ?_;let sX:List (Nat×Value)->List (Nat×Value):=fun l=>(1,dA g0)::(4,dA g1)::l;let sY:List aF->List aF:=fun l=>⟨ab,86,pa++ai jZ a,aN,false⟩::⟨bb,86,pb++ai jZ b,bN,false⟩::⟨some g0,26,[.int .u8 (ta:Nat),.int .u8 (xa:Nat),.int .u8 (ya:Nat),aB ab pa.length a.length ac,.int .u8 (tb:Nat),.int .u8 (xb:Nat),.int .u8 (yb:Nat),aB bb pb.length b.length bc,.int .u8 (ch:Nat)],9,true⟩::⟨some g1,24,[.int .u8 (ta:Nat),.int .u8 (xa:Nat),.int .u8 (ya:Nat),aB (some gn) 0 a.length nc],4,true⟩::l;refine yV (nt:=65) (Z:=Unit) (fun _=>sX []) (fun _=>sY [⟨some gn,86,ai jZ ((a.set k ⟨s.time,(s.x+ch/16)%256,s.y,s.kind⟩).set k (Iy ch s)),nN,true⟩]) 21 [0,1,2,3,4,5,6,7,8,9,10,11,12,13,14,15,16,17,18,19,20] mixed (by kernel_rfl) (fun hd0=>?_) ?_
    ·refine bf (nt:=65) (Z:=Unit) (fun _=>sX [(6,.pointer (some ⟨gn,k*4,none⟩)),(55,.int .u8 (((s.y+1)%256:Nat):Int)),(59,.pointer (some ⟨gn,k*4+2,none⟩))]) (fun _=>sY [⟨some gn,86,ai jZ (a.set k ⟨s.time,(s.x+ch/16)%256,s.y,s.kind⟩),nN,true⟩]) 1 [20] (fun z=>?_) (fun hd1=>?_)
     ·(try dsimp only);refine AY 20 ?_
      ·refine jB rfl 4 ((k)*4+2) [_,_,_,_,_] (ai jZ ((a.set k ⟨s.time,(s.x+ch/16)%256,s.y,s.kind⟩).set k (Iy ch s))) rfl rfl rfl rfl ti5 rfl (by rw[Nat.ble_eq,jU.length];show k*4+2+1<=(a.set k ⟨s.time,(s.x+ch/16)%256,s.y,s.kind⟩).length*4;(try simp only[List.length_set]);omega) rfl (jU.setf (show(a.set k ⟨s.time,(s.x+ch/16)%256,s.y,s.kind⟩)[k]? =some ⟨s.time,(s.x+ch/16)%256,s.y,s.kind⟩ by rw[List.getElem?_set_self hkl]) rfl (by decide)) rfl ?_;refine A1 ?_;exact Nw hd0 () [0,1,2,3,4]
     refine bf (nt:=65) (Z:=Unit) (fun _=>sX [(6,.pointer (some ⟨gn,k*4,none⟩)),(42,.pointer (some ⟨gn,k*4,none⟩)),(50,.int .u8 (((s.x+ch/16)%256:Nat):Int)),(55,.int .u8 (((s.y+1)%256:Nat):Int)),(57,.pointer (some ⟨gn,k*4+1,none⟩))]) (fun _=>sY [⟨some gn,86,ai jZ a,nN,true⟩]) 4 [17,18,19,20] (fun z=>?_) (fun hd2=>?_)
     ·(try dsimp only);refine AY 17 ?_
      ·refine jB rfl 4 ((k)*4+1) [_,_,_,_,_] (ai jZ (a.set k ⟨s.time,(s.x+ch/16)%256,s.y,s.kind⟩)) rfl rfl rfl rfl ti5 rfl (by rw[Nat.ble_eq,jU.length];show k*4+1+1<=(a).length*4;(try simp only[List.length_set]);omega) rfl (jU.setf hx rfl (by decide)) rfl ?_;refine A1 ?_;refine Nt 18 ?_;refine A2 ?_;refine Nt 19 ?_;refine Fg ((k)*4) 2 ?_;refine A1 ?_;exact Nw hd1 () [0,1,2,3,4]
     refine bf (nt:=65) (Z:=Unit) (fun _=>sX [(6,.pointer (some ⟨gn,k*4,none⟩)),(41,.pointer (some ⟨gn,k*4,none⟩)),(42,.pointer (some ⟨gn,k*4,none⟩)),(45,.pointer (some ⟨gn,k*4+1,none⟩)),(49,.int .u8 ((ch/16:Nat):Int)),(55,.int .u8 (((s.y+1)%256:Nat):Int))]) (fun _=>sY [⟨some gn,86,ai jZ a,nN,true⟩]) 8 [5,9,15,16,17,18,19,20] (fun z=>?_) (fun hd3=>?_)
     ·(try dsimp only);refine AY 5 ?_
      ·refine aT (v:= .int .u8 s.x) 4 ((k)*4+1) _ rfl rfl rfl rfl ti5 (jU.sub hx 1 1 (by decide)) rfl (by decide) rfl ?_;refine A1 ?_;refine Nt 9 ?_;refine(Aq (((s.x+ch/16)%256:Nat):Int)) (congrArg some (XX _ _ rfl rfl)) ?_;refine A1 ?_;refine Nt 15 ?_;refine A2 ?_;refine Nt 16 ?_;refine Fg ((k)*4) 1 ?_;refine A1 ?_;exact Nw hd2 () [0,1,2,3,4]
     refine bf (nt:=65) (Z:=Unit) (fun _=>sX [(6,.pointer (some ⟨gn,k*4,none⟩)),(41,.pointer (some ⟨gn,k*4,none⟩)),(42,.pointer (some ⟨gn,k*4,none⟩)),(50,.int .u8 (((s.x+ch/16)%256:Nat):Int)),(53,.pointer (some ⟨gn,k*4+2,none⟩))]) (fun _=>sY [⟨some gn,86,ai jZ a,nN,true⟩]) 8 [13,14,15,16,17,18,19,20] (fun z=>?_) (fun hd4=>?_)
     ·(try dsimp only);refine AY 13 ?_
      ·refine aT (v:= .int .u8 s.y) 4 ((k)*4+2) _ rfl rfl rfl rfl ti5 (jU.sub hx 2 1 (by decide)) rfl (by decide) rfl ?_;refine A1 ?_;refine Nt 14 ?_;refine(Aq (((s.y+1)%256:Nat):Int)) (congrArg some (XX _ _ rfl rfl)) ?_;refine A1 ?_;refine Nt 15 ?_;refine A2 ?_;refine Nt 16 ?_;refine Fg ((k)*4) 1 ?_;refine A1 ?_;exact Nw hd2 () [0,1,2,3,4]
     refine bf (nt:=65) (Z:=Unit) (fun _=>sX [(6,.pointer (some ⟨gn,k*4,none⟩)),(41,.pointer (some ⟨gn,k*4,none⟩)),(42,.pointer (some ⟨gn,k*4,none⟩)),(46,.int .u8 ((s.x:Nat):Int)),(47,.pointer (some ⟨g0,8,none⟩)),(55,.int .u8 (((s.y+1)%256:Nat):Int))]) (fun _=>sY [⟨some gn,86,ai jZ a,nN,true⟩]) 9 [7,8,9,15,16,17,18,19,20] (fun z=>?_) (fun hd5=>?_)
     ·(try dsimp only);refine AY 7 ?_
      ·refine A2 ?_;refine Nt 8 ?_;refine(Dv ((ch/16:Nat):Int)) (by exact(congrArg some (qlu _ _ (by omega) rfl rfl))) ?_;refine A1 ?_;refine Nt 9 ?_;refine(Aq (((s.x+ch/16)%256:Nat):Int)) (congrArg some (XX _ _ rfl rfl)) ?_;refine A1 ?_;refine Nt 15 ?_;refine A2 ?_;refine Nt 16 ?_;refine Fg ((k)*4) 1 ?_;refine A1 ?_;exact Nw hd2 () [0,1,2,3,4]
     refine bf (nt:=65) (Z:=Unit) (fun _=>sX [(6,.pointer (some ⟨gn,k*4,none⟩)),(41,.pointer (some ⟨gn,k*4,none⟩)),(42,.pointer (some ⟨gn,k*4,none⟩)),(45,.pointer (some ⟨gn,k*4+1,none⟩)),(47,.pointer (some ⟨g0,8,none⟩)),(55,.int .u8 (((s.y+1)%256:Nat):Int))]) (fun _=>sY [⟨some gn,86,ai jZ a,nN,true⟩]) 10 [5,7,8,9,15,16,17,18,19,20] (fun z=>?_) (fun hd6=>?_)
     ·(try dsimp only);refine bI [5,7] (by kernel_rfl) rfl ⟨⟨_,rfl,?_⟩,⟨_,rfl,?_⟩,trivial⟩
      ·refine aT (v:= .int .u8 s.x) 4 ((k)*4+1) _ rfl rfl rfl rfl ti5 (jU.sub hx 1 1 (by decide)) rfl (by decide) rfl ?_;refine A1 ?_;exact Nw hd5 () [0,1,2,3,4]
      ·refine A2 ?_;refine Nt 8 ?_;refine(Dv ((ch/16:Nat):Int)) (by exact(congrArg some (qlu _ _ (by omega) rfl rfl))) ?_;refine A1 ?_;exact Nw hd3 () [0,1,2,3,4]
     refine bf (nt:=65) (Z:=Unit) (fun _=>sX [(6,.pointer (some ⟨gn,k*4,none⟩)),(41,.pointer (some ⟨gn,k*4,none⟩)),(42,.pointer (some ⟨gn,k*4,none⟩)),(45,.pointer (some ⟨gn,k*4+1,none⟩)),(49,.int .u8 ((ch/16:Nat):Int)),(53,.pointer (some ⟨gn,k*4+2,none⟩))]) (fun _=>sY [⟨some gn,86,ai jZ a,nN,true⟩]) 10 [5,9,13,14,15,16,17,18,19,20] (fun z=>?_) (fun hd7=>?_)
     ·(try dsimp only);refine bI [5,13] (by kernel_rfl) rfl ⟨⟨_,rfl,?_⟩,⟨_,rfl,?_⟩,trivial⟩
      ·refine aT (v:= .int .u8 s.x) 4 ((k)*4+1) _ rfl rfl rfl rfl ti5 (jU.sub hx 1 1 (by decide)) rfl (by decide) rfl ?_;refine A1 ?_;refine Nt 9 ?_;refine(Aq (((s.x+ch/16)%256:Nat):Int)) (congrArg some (XX _ _ rfl rfl)) ?_;refine A1 ?_;exact Nw hd4 () [0,1,2,3,4]
      ·refine aT (v:= .int .u8 s.y) 4 ((k)*4+2) _ rfl rfl rfl rfl ti5 (jU.sub hx 2 1 (by decide)) rfl (by decide) rfl ?_;refine A1 ?_;refine Nt 14 ?_;refine(Aq (((s.y+1)%256:Nat):Int)) (congrArg some (XX _ _ rfl rfl)) ?_;refine A1 ?_;exact Nw hd3 () [0,1,2,3,4]
     refine bf (nt:=65) (Z:=Unit) (fun _=>sX [(6,.pointer (some ⟨gn,k*4,none⟩)),(41,.pointer (some ⟨gn,k*4,none⟩)),(42,.pointer (some ⟨gn,k*4,none⟩)),(46,.int .u8 ((s.x:Nat):Int)),(47,.pointer (some ⟨g0,8,none⟩)),(53,.pointer (some ⟨gn,k*4+2,none⟩))]) (fun _=>sY [⟨some gn,86,ai jZ a,nN,true⟩]) 11 [7,8,9,13,14,15,16,17,18,19,20] (fun z=>?_) (fun hd8=>?_)
     ·(try dsimp only);refine bI [7,13] (by kernel_rfl) rfl ⟨⟨_,rfl,?_⟩,⟨_,rfl,?_⟩,trivial⟩
      ·refine A2 ?_;refine Nt 8 ?_;refine(Dv ((ch/16:Nat):Int)) (by exact(congrArg some (qlu _ _ (by omega) rfl rfl))) ?_;refine A1 ?_;refine Nt 9 ?_;refine(Aq (((s.x+ch/16)%256:Nat):Int)) (congrArg some (XX _ _ rfl rfl)) ?_;refine A1 ?_;exact Nw hd4 () [0,1,2,3,4]
      ·refine aT (v:= .int .u8 s.y) 4 ((k)*4+2) _ rfl rfl rfl rfl ti5 (jU.sub hx 2 1 (by decide)) rfl (by decide) rfl ?_;refine A1 ?_;refine Nt 14 ?_;refine(Aq (((s.y+1)%256:Nat):Int)) (congrArg some (XX _ _ rfl rfl)) ?_;refine A1 ?_;exact Nw hd5 () [0,1,2,3,4]
     refine Nt 0 ?_;refine A2 ?_;refine Nt 1 ?_;refine A2 ?_;refine Nt 2 ?_;refine A2 ?_;refine Nt 3 ?_;refine A2 ?_;refine Nt 4 ?_;refine Fg ((k)*4) 1 ?_;refine A1 ?_;refine Nt 6 ?_;refine Fg 0 8 ?_;refine A1 ?_;refine Nt 10 ?_;refine A2 ?_;refine Nt 11 ?_;refine A2 ?_;refine Nt 12 ?_;refine Fg ((k)*4) 2 ?_;refine A1 ?_;refine bI [5,7,13] (by kernel_rfl) rfl ⟨⟨_,rfl,?_⟩,⟨_,rfl,?_⟩,⟨_,rfl,?_⟩,trivial⟩
     ·refine aT (v:= .int .u8 s.x) 4 ((k)*4+1) _ rfl rfl rfl rfl ti5 (jU.sub hx 1 1 (by decide)) rfl (by decide) rfl ?_;refine A1 ?_;exact Nw hd8 () [0,1,2,3,4]
     ·refine A2 ?_;refine Nt 8 ?_;refine(Dv ((ch/16:Nat):Int)) (by exact(congrArg some (qlu _ _ (by omega) rfl rfl))) ?_;refine A1 ?_;exact Nw hd7 () [0,1,2,3,4]
     ·refine aT (v:= .int .u8 s.y) 4 ((k)*4+2) _ rfl rfl rfl rfl ti5 (jU.sub hx 2 1 (by decide)) rfl (by decide) rfl ?_;refine A1 ?_;refine Nt 14 ?_;refine(Aq (((s.y+1)%256:Nat):Int)) (congrArg some (XX _ _ rfl rfl)) ?_;refine A1 ?_;exact Nw hd6 () [0,1,2,3,4]
    intro _;show At _ ⟨65,[(1,dA g0),(4,dA g1)],[⟨ab,86,pa++ai jZ a,aN,false⟩,⟨bb,86,pb++ai jZ b,bN,false⟩,⟨some g0,26,[.int .u8 (ta:Nat),.int .u8 (xa:Nat),.int .u8 (ya:Nat),aB ab pa.length a.length ac,.int .u8 (tb:Nat),.int .u8 (xb:Nat),.int .u8 (yb:Nat),aB bb pb.length b.length bc,.int .u8 (ch:Nat)],9,true⟩,⟨some g1,24,[.int .u8 (ta:Nat),.int .u8 (xa:Nat),.int .u8 (ya:Nat),aB (some gn) 0 a.length nc],4,true⟩,⟨some gn,86,ai jZ ((a.set k ⟨s.time,(s.x+ch/16)%256,s.y,s.kind⟩).set k (Iy ch s)),nN,true⟩]⟩ _;refine A2 ?_;refine Dp [] [0,1,3,2,4,5,6] ?_;refine A1 ?_;refine L4 2 0 ?_;refine L4 3 0 ?_;refine(Sc [0]) (fG ta xa ya hta hxa hya a ab pa aN ac hac ha6 has) (fun z=>?_);obtain⟨ub,uN,uc,huc⟩:=z;refine iJ [_] [4] rfl rfl (by show _=[some _];rw[hAl];rfl) (fG ta xa ya hta hxa hya ((a.set k ⟨s.time,(s.x+ch/16)%256,s.y,s.kind⟩).set k (Iy ch s)) (some gn) [] nN nc (by rw[hAl];omega) (by rw[hAl];exact ha6) hAo) ⟨pS,trivial⟩ rfl (.inr fun x b hb=>by rw[List.mem_singleton.1 hb]) (fun z=>?_);obtain⟨vb,vN,vc,hvc⟩:=z;refine A5 ?_;refine bT rfl (ax rfl) (ax rfl) (fun w hL=>⟨(⟨ub,uN,uc,huc⟩,⟨vb,vN,vc,by rw[hW];exact hvc⟩),?_,hL.picks [some 5,some 6] ⟨pR,⟨_,rfl,aV (by rw[show ai aK (qU ta xa ya a tb xb yb b ch)=_ from congrArg _ hW])⟩,trivial⟩ rfl rfl⟩);show Ending.returned (.tuple #[aB ub 0 _ uc,aB vb 0 _ vc])=Ending.returned (.tuple #[aB ub 0 _ uc,aB vb 0 (qU ta xa ya a tb xb yb b ch).length vc]);rw[hW]
   ·have hc1:¬1<ch%4:=by have e:=of_decide_eq_false hb2;omega
    have hW:qU ta xa ya a tb xb yb b ch=jF ta xa ya a:=(PH hch).trans (by rw[qlv (fun e=>hc1 e.2)]);refine A3 ?_;refine Dp [] [0,1,3,2,4,5,6] ?_;refine A1 ?_;refine L4 2 0 ?_;refine L4 3 0 ?_;refine(Sc [0]) (fG ta xa ya hta hxa hya a ab pa aN ac hac ha6 has) (fun z=>?_);obtain⟨ub,uN,uc,huc⟩:=z;refine(Sc [4]) (fG ta xa ya hta hxa hya a nb [] nN nc (by omega) ha6 has) (fun z=>?_);obtain⟨vb,vN,vc,hvc⟩:=z;refine A5 ?_;refine bT rfl (ax rfl) (ax rfl) (fun w hL=>⟨(⟨ub,uN,uc,huc⟩,⟨vb,vN,vc,by rw[hW];exact hvc⟩),?_,hL.picks [some 5,some 6] ⟨pR,⟨_,rfl,aV (by rw[show ai aK (qU ta xa ya a tb xb yb b ch)=_ from congrArg _ hW])⟩,trivial⟩ rfl rfl⟩);show Ending.returned (.tuple #[aB ub 0 _ uc,aB vb 0 _ vc])=Ending.returned (.tuple #[aB ub 0 _ uc,aB vb 0 (qU ta xa ya a tb xb yb b ch).length vc]);rw[hW]
  ·have hl0:¬0<a.length:=by have e:=of_decide_eq_false hb1;omega
   have hW:qU ta xa ya a tb xb yb b ch=jF ta xa ya a:=(PH hch).trans (by rw[qlv (fun e=>hl0 e.1)]);refine qX ?_;refine Dp [] [0,1,3,2,4,5,6] ?_;refine A1 ?_;refine L4 2 0 ?_;refine L4 3 0 ?_;refine(Sc [0]) (fG ta xa ya hta hxa hya a ab pa aN ac hac ha6 has) (fun z=>?_);obtain⟨ub,uN,uc,huc⟩:=z;refine(Sc [4]) (fG ta xa ya hta hxa hya a nb [] nN nc (by omega) ha6 has) (fun z=>?_);obtain⟨vb,vN,vc,hvc⟩:=z;refine A5 ?_;refine bT rfl (ax rfl) (ax rfl) (fun w hL=>⟨(⟨ub,uN,uc,huc⟩,⟨vb,vN,vc,by rw[hW];exact hvc⟩),?_,hL.picks [some 5,some 6] ⟨pR,⟨_,rfl,aV (by rw[show ai aK (qU ta xa ya a tb xb yb b ch)=_ from congrArg _ hW])⟩,trivial⟩ rfl rfl⟩);show Ending.returned (.tuple #[aB ub 0 _ uc,aB vb 0 _ vc])=Ending.returned (.tuple #[aB ub 0 _ uc,aB vb 0 (qU ta xa ya a tb xb yb b ch).length vc]);rw[hW]
 ·have hch:¬0<ch%4:=by have e:=of_decide_eq_false hb0;omega
  have hW:qU ta xa ya a tb xb yb b ch=jF tb xb yb b:=qpG hch;refine A3 ?_;refine Dp [] [0,1,3,2,4,5,6] ?_;refine A1 ?_;refine L4 2 0 ?_;refine L4 3 0 ?_;refine(Sc [0]) (fG ta xa ya hta hxa hya a ab pa aN ac hac ha6 has) (fun z=>?_);obtain⟨ub,uN,uc,huc⟩:=z;refine(Sc [1]) (fG tb xb yb htb hxb hyb b bb pb bN bc hbc hb6 hbs) (fun z=>?_);obtain⟨vb,vN,vc,hvc⟩:=z;refine A5 ?_;refine bT rfl (ax rfl) (ax rfl) (fun w hL=>⟨(⟨ub,uN,uc,huc⟩,⟨vb,vN,vc,by rw[hW];exact hvc⟩),?_,hL.picks [some 4,some 5] ⟨pR,⟨_,rfl,aV (by rw[show ai aK (qU ta xa ya a tb xb yb b ch)=_ from congrArg _ hW])⟩,trivial⟩ rfl rfl⟩);show Ending.returned (.tuple #[aB ub 0 _ uc,aB vb 0 _ vc])=Ending.returned (.tuple #[aB ub 0 _ uc,aB vb 0 (qU ta xa ya a tb xb yb b ch).length vc]);rw[hW]
end Go.Proofs.YtaffcpfhedadhaaGreatDoor
namespace Go.Proofs.YtaffcpfhedadhaaGreatDoor
open Go Go.RowKit Go.Via
def qmr{ta xa ya tb xb yb ch:Nat}{a b:List ug}{A B:List PU}(hA:jF ta xa ya a=A)(hB:qU ta xa ya a tb xb yb b ch=B)(hta:ta<256)(hxa:xa<256)(hya:ya<256)(htb:tb<256)(hxb:xb<256)(hyb:yb<256)(hch:ch<256)
 {ab:Option Nat}{pa:List Value}(aN ac:Nat)(hac:a.length<=ac)(ha6:a.length<=6)(has:∀s∈a,okS s){bb:Option Nat}{pb:List Value}(bN bc:Nat)(hbc:b.length<=bc)(hb6:b.length<=6)(hbs:∀s∈b,okS s):
 bQ Tryz.prog 13 [⟨ab,86,pa++ai jZ a,aN,false⟩,⟨bb,86,pb++ai jZ b,bN,false⟩] [.agg #[.int .u8 (ta:Nat),.int .u8 (xa:Nat),.int .u8 (ya:Nat),aB ab pa.length a.length ac,.int .u8 (tb:Nat),.int .u8 (xb:Nat),.int .u8 (yb:Nat),aB bb pb.length b.length bc,.int .u8 (ch:Nat)]] (SR A.length×SR B.length) (fun z=> .tuple #[z.1.v,z.2.v]) (fun z=>[⟨z.1.b,100,ai aK A,z.1.n,true⟩,⟨z.2.b,100,ai aK B,z.2.n,true⟩]):=by
 subst hA;subst hB;exact PR ta xa ya tb xb yb ch hta hxa hya htb hxb hyb hch a ab pa aN ac hac ha6 has b bb pb bN bc hbc hb6 hbs
section
variable{A B:List PU}
end
end Go.Proofs.YtaffcpfhedadhaaGreatDoor
namespace Go.Via
open Go
section
variable{c:List iT}{d k:Nat}{q:Rat}{m:Rl}
def MB{x:Rl}{q:Rat}{n:Nat}(hx:eU x<=n)(hq:bY q<=40):eU ⟨x.p+q,x.r,x.n⟩<=n+n+100:=by
 have h1:=pM x;have h2:=wG x;have h3:=iQ x.p q
 exact Nat.max_le.2 ⟨by dsimp only;omega,by dsimp only;omega⟩
def qup(hq:bY q<=40){p:iT}(h:gV p.i<=1000∧eU p.a<=1000∧eU p.b<=1000):gV (chP d q p).i<=5000∧eU (chP d q p).a<=5000∧eU (chP d q p).b<=5000:=by
 obtain⟨h1,h2,h3⟩:=h
 have h4:=ig p.i;have h5:=gW p.i
 have ma:=MB h2 hq;have mb:=MB h3 hq;have mt:=MB (Nat.le_trans h5 h1) hq
 have kb:eU ⟨p.b.p,p.b.r,!p.b.n⟩<=5000:=Nat.le_trans h3 (by omega)
 have k1:gV p.i<=5000:=by omega
 have k2:eU p.a<=5000:=by omega
 have k3:eU p.b<=5000:=by omega
 have k4:eU p.i.f<=5000:=by omega
 have k5:eU p.i.t<=5000:=by omega
 unfold chP
 split
 ·exact⟨k1,Nat.le_trans ma (by omega),k3⟩
 split
 ·exact⟨k1,k2,Nat.le_trans mb (by omega)⟩
 split
 ·exact⟨qH k4 (Nat.le_trans mt (by omega)),k2,k3⟩
 split
 ·exact⟨qH k4 k5,k2,k3⟩
 split
 ·exact⟨qH k4 k5,k2,k3⟩
 split
 ·exact⟨k1,k2,kb⟩
 exact⟨k1,k2,k3⟩
def qpQ{p:iT}(h:uX p.i.f∧uX p.i.t):uX (chP d q p).i.f∧uX (chP d q p).i.t:=by
 unfold chP
 split
 ·exact h
 split
 ·exact h
 split
 ·obtain⟨h1,z,hz⟩:=h
  exact⟨h1,z+q,by show(⟨p.i.t.p+q,p.i.t.r,p.i.t.n⟩:Rl)=_;rw[hz];rfl⟩
 split
 ·exact h
 split
 ·exact h
 split<;>exact h
def qdf{p:iT}(h:p∈wW c d k q):p∈c∨∃z∈c,p=chP d q z:=by
 unfold wW at h
 split at h
 ·rcases List.mem_append.1 h with e|e
  ·exact .inl (List.mem_of_mem_take e)
  ·exact .inl (List.mem_of_mem_drop e)
 split at h
 ·split at h
  ·rename_i x y hx hy
   rcases List.mem_or_eq_of_mem_set h with e|e
   ·rcases List.mem_or_eq_of_mem_set e with e|e
    ·exact .inl e
    ·rw[e];exact .inl (List.mem_of_getElem? hy)
   ·rw[e];exact .inl (List.mem_of_getElem? hx)
  ·exact .inl h
 ·split at h
  ·rename_i z hz
   rcases List.mem_or_eq_of_mem_set h with e|e
   ·exact .inl e
   ·exact .inr ⟨z,List.mem_of_getElem? hz,e⟩
  ·exact .inl h
def qdg:(wW c d k q).length<=c.length:=by
 unfold wW
 split
 ·rw[List.length_append,List.length_take,List.length_drop];omega
 split
 ·split<;>simp
 ·split<;>simp
def qms(hq:bY q<=40)(h:eU m<=1000):eU (Qq c m d q)<=5000:=by
 have:=MB h hq
 unfold Qq;split
 ·omega
 split<;>omega
end
end Go.Via
namespace Go.Proofs.YtaffcpfhedadhaaGreatDoor
open Go Go.RowKit Go.Via
def qwR{A B:List PU}(F:Fl A B)(ub:Option Nat)(uN uc:Nat)(huc:A.length<=uc)(vb:Option Nat)(vN vc:Nat)(hvc:B.length<=vc)(c:List iT)(cb:Option Nat)(cN cc:Nat)(hcc:c.length<=cc)(hn:c.length<=42)(m:Rl)(hsz:∀p∈c,gV p.i<=5000∧eU p.a<=5000∧eU p.b<=5000)(hm:eU m<=5000)(hc:∀p∈c,uX p.i.f∧uX p.i.t):
 bQ Tryz.prog 16 [⟨ub,100,ai aK A,uN,false⟩,⟨vb,100,ai aK B,vN,false⟩,⟨cb,63,ai bg c,cN,false⟩] [aB ub 0 A.length uc,aB vb 0 B.length vc,UQ (aB cb 0 c.length cc) m] Unit (fun _=> .int .i64 (CJ A B c m)) (fun _=>[]):=by
 rw[<-ZR F.H.sa F.H.sb F.H.ea F.H.eb hc]
 have O:=qcl (Oc 0)
 have T:=Uk O (E:=qp A++qp B++c.flatMap fun p=>[p.i.f,p.i.t]) fun x hx=> .inl (by
 rcases List.mem_append.1 hx with e|e
 ·rcases List.mem_append.1 e with e|e
  ·obtain⟨z,hz⟩:=vF F.H.ea e;exact⟨_,hz⟩
  ·obtain⟨z,hz⟩:=vF F.H.eb e;exact⟨_,hz⟩
 ·obtain⟨p,hp,he⟩:=List.mem_flatMap.1 e
  have:=hc p hp
  simp at he
  rcases he with rfl|rfl
  ·exact this.1
  ·exact this.2)
 have ea':Go.Via.Ends (fun x=>x∈qp A++qp B++c.flatMap fun p=>[p.i.f,p.i.t]) A:=fun u hu=>⟨List.mem_append.2 (.inl (List.mem_append.2 (.inl (jK hu).1))),List.mem_append.2 (.inl (List.mem_append.2 (.inl (jK hu).2)))⟩
 have eb':Go.Via.Ends (fun x=>x∈qp A++qp B++c.flatMap fun p=>[p.i.f,p.i.t]) B:=fun u hu=>⟨List.mem_append.2 (.inl (List.mem_append.2 (.inr (jK hu).1))),List.mem_append.2 (.inl (List.mem_append.2 (.inr (jK hu).2)))⟩
 have hpf:=fP T (y7 jM T F.H.ea ea' F.H.sa) (y7 jM T F.H.eb eb' F.H.sb) ea' eb'
 have hps:=uZ T ea' eb'
 rw[<-hpf] at hps
 exact wY T A ub uN uc huc (Nat.le_trans F.la (by omega)) B vb vN vc hvc (Nat.le_trans F.lb (by omega)) F.sa F.sb F.H c cb cN cc hcc (by omega) m hsz hm hps fun p hp=>⟨List.mem_append.2 (.inr (List.mem_flatMap.2 ⟨p,hp,by simp⟩)),List.mem_append.2 (.inr (List.mem_flatMap.2 ⟨p,hp,by simp⟩))⟩
end Go.Proofs.YtaffcpfhedadhaaGreatDoor
namespace Go.Via
open Go
def Fl.chz{A B:List PU}(F:Fl A B){d k:Nat}{q:Rat}(hq:bY q<=40):∀p∈wW (Gi A B) d k q,gV p.i<=5000∧eU p.a<=5000∧eU p.b<=5000:=fun p hp=>by
 rcases qdf hp with e|⟨z,hz,rfl⟩
 ·exact F.sz5 p e
 ·exact qup hq (F.sz z hz)
def Fl.chr{A B:List PU}(F:Fl A B){d k:Nat}{q:Rat}:∀p∈wW (Gi A B) d k q,uX p.i.f∧uX p.i.t:=fun p hp=>by
 have H:∀z∈Gi A B,uX z.i.f∧uX z.i.t:=fun z hz=>by
  obtain⟨⟨a,ha⟩,⟨b,hb⟩⟩:=F.cS z hz
  exact⟨⟨_,ha⟩,⟨_,hb⟩⟩
 rcases qdf hp with e|⟨z,hz,rfl⟩
 ·exact H p e
 ·exact qpQ (H z hz)
end Go.Via
namespace Go.Proofs.YtaffcpfhedadhaaGreatDoor
open Go Go.RowKit Go.Via
def iq(n:Int)(h1: -255<=n:=by omega)(h2:n<=255:=by omega):aG Tryz.prog 36 #[.int .i64 n] (RV (rz n)):=by
 refine vC 6 Tryz.func36 fun w=>?_;refine A2 ?_;refine Al 9 QI (fun g0=>?_);refine A5 ?_;refine Pc (iU n 1) ?_;refine aP 4 (Q (n:Rat)) rfl (congrArg Q (sV n)) ?_;refine(Bu [(0,_)]) (Nq) ?_;refine Ss 0 ?_;refine A3 ?_;refine Ed9 0 ?_;exact congrArg Ending.returned (RQ (n:Rat)).symm
def Lt:bQ Tryz.prog 39 [] [] (SR [eA1].length×SR [eB1,eB2].length) (fun z=> .tuple #[z.1.v,z.2.v]) (fun z=>[⟨z.1.b,100,ai aK [eA1],z.1.n,true⟩,⟨z.2.b,100,ai aK [eB1,eB2],z.2.n,true⟩]):=by
 refine sB0 24 Tryz.func39 fun w hL0=>?_;refine A8 ?_;refine Pc (iq 4) ?_;refine(Bu [(1,_)]) (Tv) ?_;refine aP 3 (lC eA1.i) rfl (qc9 _ _ _).symm ?_;refine Pc (iU 1 1) ?_;refine aP 4 (Q ((1:Int):Rat)) rfl (congrArg Q (sV 1)) ?_;refine(Bu [(1,_)]) (qnd) ?_;refine aP 5 (AU eA1.f) rfl (qud _).symm ?_;refine(Bu [(0,_),(1,_)]) (LK) ?_;refine Kr 6 (PUV eA1) ?_;refine(Bl 36 [(0,_)]) (Fe) (fun g0=>?_);refine A5 ?_;refine Pc (iq 2) ?_;refine(Bu [(1,_)]) (Tv) ?_;refine aP 9 (lC eB1.i) rfl (qc9 _ _ _).symm ?_;refine Pc (iU 3 1) ?_;refine aP 10 (Q ((3:Int):Rat)) rfl (congrArg Q (sV 3)) ?_;refine(Bu [(2,_)]) (qne) ?_;refine aP 11 (AU eB1.f) rfl (que _).symm ?_;refine(Bu [(0,_),(1,_)]) (LK) ?_;refine Kr 12 (PUV eB1) ?_;refine Pc (iq 2) ?_;refine Pc (iq 4) ?_;refine(Bu [(0,_),(1,_),(2,_)]) (YD) ?_;refine Kr 15 (lC eB2.i) ?_;refine Pc (iU (-4) 1) ?_;refine aP 16 (Q (((-4):Int):Rat)) rfl (congrArg Q (sV (-4))) ?_;refine Pc (iU 2 1) ?_;refine aP 17 (Q ((2:Int):Rat)) rfl (congrArg Q (sV 2)) ?_;refine Pc (iU 3 1) ?_;refine aP 18 (Q ((3:Int):Rat)) rfl (congrArg Q (sV 3)) ?_;refine(Bu [(0,_),(1,_),(2,_)]) (qsc) ?_;refine aP 19 (AU eB2.f) rfl (qwu _ _ _).symm ?_;refine(Bu [(0,_),(1,_)]) (LK) ?_;refine Kr 20 (PUV eB2) ?_;refine(Bl 72 [(0,_),(1,_)]) (qse) (fun g1=>?_);refine oH ?_;refine bT rfl (ax rfl) (ax rfl) (fun w hL=>⟨(⟨some g0,36,1,Nat.le_refl _⟩,⟨some g1,72,2,Nat.le_refl _⟩),?_,hL.pk [some 0,some 1]⟩);exact rfl
def Dy(x:Rl)(r:Rat)(hx:eU x<=50000:=by omega)(hr:bY r<=20000:=by omega):aG Tryz.prog 68 #[RV x,Q r] (.bool (decide (aY x (rl (r*r))<=0))):=by
 have h2:=xC hr hr;refine nX 11 Tryz.func68 fun w=>?_;refine A2 ?_;refine Bp 9 (fun g0=>?_);refine Bp 4 (fun g1=>?_);refine A4 ?_;refine Di [] ?_;refine L9 0 0 ?_;refine L4 1 0 ?_;refine L4 1 0 ?_;refine Pc (bJ r r) ?_;refine Pc (xW x (r*r) hx) ?_;refine A5 ?_;refine E0 ?_;exact rfl
def wZ(cb:Option Nat)(cn cc:Nat)(x:Rl)(r:Rat)(hx:eU x<=50000:=by omega)(hr:bY r<=20000:=by omega):aG Tryz.prog 26 #[UQ (aB cb 0 cn cc) x,Q r] (.bool (decide (aY x (rl (r*r))<=0))):=by
 refine nX 9 Tryz.func26 fun w=>?_;refine A2 ?_;refine Bp 10 (fun g0=>?_);refine Bp 4 (fun g1=>?_);refine A6 ?_;refine L9 0 1 ?_;refine L4 1 0 ?_;refine Pc (Dy x r hx hr) ?_;refine A4 ?_;refine E0 ?_;exact rfl
end Go.Proofs.YtaffcpfhedadhaaGreatDoor
namespace Go.Via
open Go
section
variable{sm:Rl->Rl->Option Rat}{bd:Rat}{P:List (Iv×Qd)}{k:Nat}{x:Iv×Qd}{m:List Iv}
def qpR(hx:P[k]? =some x)(h:O5 sm bd (P.drop k)=some m):∃v m',uy sm (nO false false true) (qG x.2 ⟨bd*bd,0,0⟩) x.1=some v∧O5 sm bd (P.drop (k+1))=some m'∧m=v++m':=by
 rw[yK hx,O5] at h;rcases hv:uy sm (nO false false true) (qG x.2 ⟨bd*bd,0,0⟩) x.1 with _|v
 ·rw[hv] at h;cases h
 ·rw[hv] at h;rcases hm:O5 sm bd (P.drop (k+1)) with _|m'
  ·simp only[Option.bind_some] at h;rw[hm] at h;cases h
  ·simp only[Option.bind_some] at h;rw[hm] at h;injection h with e;exact⟨v,m',rfl,rfl,e.symm⟩
theorem quq(h:O5 sm bd (P.drop P.length)=some m):m=[]:=by
 rw[List.drop_length,O5] at h;injection h with e;exact e.symm
end
end Go.Via
namespace Go.Proofs.YtaffcpfhedadhaaGreatDoor
open Go Go.RowKit Go.Via
def Dz{S:Rl->Prop}{ρ:Rl->Int}(T:dM S ρ)(sm:Rl->Rl->Option Rat)(a:List PU)(ab:Option Nat)(aN ac:Nat)(hac:a.length<=ac)(han:a.length<=400)(b:List PU)(bb:Option Nat)(bN bc:Nat)(hbc:b.length<=bc)(hbn:b.length<=400)(hsa:Ee a)(hsb:Ee b)(bd:Rat)(hbd:bY bd<=20000)(ex:List Iv)(h:O5 sm bd (aA a b)=some ex)(hW:∀x∈aA a b,∀v,uy sm (nO false false true) (qG x.2 ⟨bd*bd,0,0⟩) x.1=some v->bQ Tryz.prog 76 [] [uf (qG x.2 ⟨bd*bd,0,0⟩),lC x.1,.bool false,.bool false,.bool true] (SR v.length) (fun z=> .tuple #[z.v,.int .i64 0]) (fun z=>[⟨z.b,61,ai aZ v,z.n,true⟩])∧v.length<=10)(hwS:fU S ex)(hwo:IG ρ ex)(hwz:∀x∈ex,gV x<=50000)(hwl:ex.length<=1000:=by omega):bQ Tryz.prog 31 [⟨ab,100,ai aK a,aN,false⟩,⟨bb,100,ai aK b,bN,false⟩] [aB ab 0 a.length ac,aB bb 0 b.length bc,Q bd] (SR (dY ex).length) SR.v (fun z=>[⟨z.b,61,ai aZ (dY ex),z.n,true⟩]):=by
 refine⟨by kernel_rfl,fun w hL0=>?_⟩;have hpl:=vG a b;have hps:=wQ hsa hsb;have hb2:=xC hbd hbd;have hq0:=y9
 have hb3:ve ⟨bd*bd,0,0⟩<=1000000:=(by show max (bY (bd*bd)) (max (bY 0) (bY 0))<=1000000;omega);refine cB3 41 Tryz.func31 hL0 ?_;refine A2 ?_;refine Bp 4 (fun g0=>?_);refine A5 ?_;refine L4 2 0 ?_;refine L4 2 0 ?_;refine Pc (bJ bd bd) ?_;refine Pc (tZ (bd*bd)) ?_;refine Al 12 Vf (fun g1=>?_);refine Ss 3 ?_;refine oH ?_;refine(Sc [0,1]) (wX a ab aN ac hac (by omega) b bb bN bc hbc (by omega) hsa hsb) (fun z=>?_);obtain⟨pb,pN,pc,hpc⟩:=z;refine A5 ?_;refine El (ι:={z:Nat×List Iv×Option Nat×Nat×Nat // z.1<=(aA a b).length∧(∃m,O5 sm bd ((aA a b).drop z.1)=some m∧ex=z.2.1++m)∧z.2.1.length<=z.2.2.2.2∧z.2.2.2.2*20<=z.2.2.2.1}) (fun⟨⟨k,o,ob,oN,oc⟩,hk,hI,h3,h4⟩=>([(7,dA g1),(8,aB ob 0 o.length oc),(19,aB pb 0 (aA a b).length pc),(20,bF ((aA a b).length)),(21,bF k)],[⟨some g1,91,qoJ ⟨bd*bd,0,0⟩,12,true⟩,⟨pb,93,ai FO (aA a b),pN,true⟩,⟨ob,61,ai aZ o,oN,true⟩],(aA a b).length-k)) ⟨⟨0,[],none,0,0⟩,Nat.zero_le _,⟨ex,h,rfl⟩,Nat.le_refl _,by simp⟩ ?_ (hL:=(ay [some 3,some 4,none] ⟨pR,pR,⟨rfl,rfl,rfl⟩,trivial⟩ rfl rfl));rintro⟨⟨k,o,ob,oN,oc⟩,hk,hI,h3,h4⟩;(try dsimp only);replace hk:k<=(aA a b).length:=hk;obtain⟨m,hm,hwm⟩:=hI;replace hm:O5 sm bd ((aA a b).drop k)=some m:=hm;replace hwm:ex=o++m:=hwm;replace h3:o.length<=oc:=h3;replace h4:oc*20<=oN:=h4;have hol:o.length<=1000:=Nat.le_trans (by rw[hwm,List.length_append];exact Nat.le_add_right _ _) hwl;refine A6 ?_;refine Cd ?_ ?_<;>intro hb1
 ·have hlt:k<(aA a b).length:=(by have:=of_decide_eq_true hb1;omega);obtain⟨x,hx⟩:∃x,(aA a b)[k]? =some x:=⟨(aA a b)[k],List.getElem?_eq_getElem hlt⟩;have hxm:=List.mem_of_getElem? hx;have hxz:=hps x hxm;obtain⟨v,m2,hv,hm2,hm3⟩:=qpR hx hm;obtain⟨hsc,hvl⟩:=hW x hxm v hv;refine dK 1 rfl (um.ne (by decide) (by omega)) (fun hbs=>?_);obtain⟨gp,hgp⟩:=Option.isSome_iff_exists.1 hbs;replace hgp:pb=some gp:=hgp;subst hgp;refine A6 ?_;refine aJ 1 ((k)*32) u88 qdy rfl rfl rfl rfl rfl (by omega) (by omega) (um.ne (by decide) (by omega)) (by show 0+Int.toNat _*32=_;omega) ?_;refine aT (v:=PtV x) 1 ((k)*32) _ rfl rfl rfl rfl qdy (um.sub hx 0 32 (by decide)) rfl (by decide) rfl ?_;refine Al 32 z93 (fun g2=>?_);refine Ss 3 ?_;refine A3 ?_;refine Dp [2000000] [0,1,2,4,5,3,6,7,8,9,10,11] ?_;refine A1 ?_;refine xg 3 20 ?_;refine xg 0 0 ?_;refine A1 ?_;refine zO 3 0 ?_;refine Pc (AB x.2 ⟨bd*bd,0,0⟩) ?_;refine(Sc []) hsc (fun z=>?_);obtain⟨vb,vN,vc,hvc⟩:=z;refine A7 ?_;refine qh 4 rfl (fun hba=>?_);have hvb:=qJ dw (by decide) hba;refine A3 ?_;refine(Qo (s:=20) (len:=o.length) 2 4 (ai aZ v) (fun r2=>[_,_,⟨r2.b,61,ai aZ o++ai aZ v,r2.n,true⟩,_,_]) Yb P7) (dw.length o) h3 h4 hvb (by exact(by rw[List.drop_zero,<-dw.length v,List.take_length])) (dw.length v) (dw.ones _) (fun r2=>?_);refine A5 ?_;refine Ar (((k+1:Nat):Int)) ?_;refine A3 ?_;exact Nl ⟨⟨k+1,o++v,r2.b,r2.n,r2.cap⟩,hlt,⟨m2,hm2,by rw[hwm,hm3,List.append_assoc]⟩,by rw[List.length_append];exact r2.h,r2.hn⟩ (hμ:=(by show(aA a b).length-(k+1)<(aA a b).length-k;omega)) (ht:=⟨rfl,(aO rfl (congrArg (fun z=>aB r2.b 0 z r2.cap) List.length_append.symm)),rfl,rfl,rfl,trivial⟩) (hL:=(ay [some 0,some 1,some 2] ⟨pR,pR,⟨_,rfl,aV (by rw[pK])⟩,trivial⟩ rfl rfl))
 ·have hge:k=(aA a b).length:=(by have:=of_decide_eq_false hb1;omega);subst hge;have hwo2:ex=o:=by rw[hwm,quq hm,List.append_nil]
  subst hwo2;refine A8 ?_;refine(Sc [2]) (uz T ex ob oN oc h3 hwl hwS hwo hwz) (fun z=>?_);obtain⟨nb,nN,nc,hnc⟩:=z;refine A4 ?_;refine aH rfl (ax rfl) (fun w hL=>⟨⟨nb,nN,nc,hnc⟩,?_,hL.pk [some 3]⟩);exact rfl
end Go.Proofs.YtaffcpfhedadhaaGreatDoor
namespace Go.Via
open Go
set_option maxRecDepth 100000
def kA:List PU:=[eA1]
def kB:List PU:=[eB1,eB2]
def kP:List iT:=(aA kA kB).map aW
def eP1:iT:=⟨⟨rl 0,rz 2,false,false⟩,rz 9,rz 13⟩
def eIv:Iv:=⟨rl 0,rz 4,true,true⟩
def q3:Rat:=((3:Int):Rat)
def kW:List Iv:=[⟨rl 0,rz 2,true,false⟩,⟨rz 2,rz 4,true,true⟩]
def p1:Iv×Qd:=(⟨rl 0,rz 2,false,false⟩,⟨9,0,1⟩)
def p2:Iv×Qd:=(⟨rz 2,rz 4,true,false⟩,⟨25,-8,1⟩)
theorem qdh:aA kA kB=[p1,p2]:=eP
def qwS:O5 uF q3 (aA kA kB)=some kW:=eP
theorem qmt:dY kW=[eIv]:=eP
def qrA:kP.length=2:=eP
def k_0:kP[0]? =some eP1:=eP
theorem qdi:fB kP=rz 13:=eP
def qwT:qQ kA kB kP (fB kP)=0:=eP
def qyV:decide (aY (fB kP) (rl (((4:Int):Rat)*((4:Int):Rat)))<=0)=true:=eP
def qyW:decide (aY (fB kP) (rl (((3:Int):Rat)*((3:Int):Rat)))<=0)=false:=eP
def qur:Ee kA:=by unfold Ee;decide+kernel
def qus:Ee kB:=by unfold Ee;decide+kernel
def qyX:∀p∈kP,gV p.i<=5000∧eU p.a<=5000∧eU p.b<=5000:=eP
def yM(n:Int):fO (rz n):=⟨n,rfl⟩
def MC:fO (rl 0):=⟨0,by rfl⟩
def qwU:XM kA:=fun u hu=>by
 rw[kA,List.mem_singleton] at hu;subst hu;exact⟨MC,yM 4⟩
def qwV:XM kB:=fun u hu=>by
 rw[kB,List.mem_cons,List.mem_singleton] at hu;rcases hu with h|h<;>subst h
 ·exact⟨MC,yM 2⟩
 ·exact⟨yM 2,yM 4⟩
def qwW:C9 kA kB:=by
 refine⟨?_,?_,qwU,qwV⟩
 ·unfold nR;decide+kernel
 ·unfold nR;decide+kernel
def qwX:∀x∈aA kA kB,(fO x.1.f∧fO x.1.t)∧aI gU x.1.b<aI gU x.1.e:=fun x hx=>by
 rw[qdh,List.mem_cons,List.mem_singleton] at hx;rcases hx with h|h<;>subst h
 ·exact⟨⟨MC,yM 2⟩,eP⟩
 ·exact⟨⟨yM 2,yM 4⟩,eP⟩
def qyY:∀p∈kP,fO p.i.f∧fO p.i.t:=fun p hp=>by
 obtain⟨x,hx,rfl⟩:=List.mem_map.1 hp;exact(qwX x hx).1
def qyZ:fU fO kW:=fun i hi=>by
 rw[kW,List.mem_cons,List.mem_singleton] at hi;rcases hi with h|h<;>subst h
 ·exact⟨MC,yM 2⟩
 ·exact⟨yM 2,yM 4⟩
def qy0:IG gU kW:=by unfold IG;decide+kernel
def qy1:∀x∈kW,gV x<=50000:=eP
def qrB:∀l,gG uF (qG p1.2 ⟨q3*q3,0,0⟩) p1.1 (dG (qG p1.2 ⟨q3*q3,0,0⟩)) p1.1 []=some l->IC (nO false false true) false l=true∧l.length<=100:=fun l h=>by
 have e:gG uF (qG p1.2 ⟨q3*q3,0,0⟩) p1.1 (dG (qG p1.2 ⟨q3*q3,0,0⟩)) p1.1 []=some [(⟨rl 0,rl 0,false,false⟩,0),(⟨rl 0,rz 2,true,false⟩,1)]:=eP;rw[e] at h;injection h with h;subst h;decide
def qrC:∀l,gG uF (qG p2.2 ⟨q3*q3,0,0⟩) p2.1 (dG (qG p2.2 ⟨q3*q3,0,0⟩)) p2.1 []=some l->IC (nO false false true) false l=true∧l.length<=100:=fun l h=>by
 have e:gG uF (qG p2.2 ⟨q3*q3,0,0⟩) p2.1 (dG (qG p2.2 ⟨q3*q3,0,0⟩)) p2.1 []=some [(⟨rz 2,rz 4,true,true⟩,1),(⟨rz 4,rz 4,false,false⟩,0)]:=eP;rw[e] at h;injection h with h;subst h;decide
def Q1:Qd:=qG p1.2 ⟨q3*q3,0,0⟩
def Q2:Qd:=qG p2.2 ⟨q3*q3,0,0⟩
def qwY:Q1.c2≠0∧Q1.c1/(-2*Q1.c2)*(Q1.c1/(-2*Q1.c2))-Q1.c0/Q1.c2=0:=eP
def qwZ:Q2.c2≠0∧Q2.c1/(-2*Q2.c2)*(Q2.c1/(-2*Q2.c2))-Q2.c0/Q2.c2=0:=eP
def qy2:ve Q1<=1000∧gV p1.1<=1000∧bK p1.1.f=true∧bK p1.1.t=true∧ja p1.1=true∧(dG Q1).length<=2∧(∀r∈dG Q1,eU r<=1000∧bK r=true):=eP
def qy3:ve Q2<=1000∧gV p2.1<=1000∧bK p2.1.f=true∧bK p2.1.t=true∧ja p2.1=true∧(dG Q2).length<=2∧(∀r∈dG Q2,eU r<=1000∧bK r=true):=eP
def qy4:(uy uF (nO false false true) Q1 p1.1).map (·.length)=some 1:=eP
def qy5:(uy uF (nO false false true) Q2 p2.1).map (·.length)=some 1:=eP
end Go.Via
namespace Go.Proofs.YtaffcpfhedadhaaGreatDoor
open Go Go.RowKit Go.Via
def X8:∀x y r,uF x y=some r->aG Tryz.prog 235 #[RV x,RV y] (Q r):=fun x y r h=>by
 obtain⟨⟨h1,h2,h3,h4,h5,h6,h7,h8,h9⟩,rfl⟩:=qaM h;exact JL x y h3 h4 (((zX x).1 h1).elim (fun e=>e.1▸Rat.le_refl) (fun e=>Rat.le_of_lt e.1)) h8 h5 h6 h7 h9
def k_W:∀x∈aA kA kB,∀v,uy uF (nO false false true) (qG x.2 ⟨q3*q3,0,0⟩) x.1=some v->bQ Tryz.prog 76 [] [uf (qG x.2 ⟨q3*q3,0,0⟩),lC x.1,.bool false,.bool false,.bool true] (SR v.length) (fun z=> .tuple #[z.v,.int .i64 0]) (fun z=>[⟨z.b,61,ai aZ v,z.n,true⟩])∧v.length<=10:=fun x hx v hv=>by
 rw[qdh,List.mem_cons,List.mem_singleton] at hx;rcases hx with h|h<;>subst h
 ·obtain⟨z1,z2,z3,z4,z5,z6,z7⟩:=qy2;refine⟨x8 uF X8 Q1 p1.1 false false true v hv (fun l hl=>(qrB l hl).1) z3 z4 z5 (xZ Q1 (ET Q1 z1 qwY.1 qwY.2)) z7 z6 (fun l hl=>(qrB l hl).2) (Nat.le_trans z1 au) z2,?_⟩;have e:=qy4;rw[show uy uF (nO false false true) Q1 p1.1=some v from hv] at e;simp at e;omega
 ·obtain⟨z1,z2,z3,z4,z5,z6,z7⟩:=qy3;refine⟨x8 uF X8 Q2 p2.1 false false true v hv (fun l hl=>(qrC l hl).1) z3 z4 z5 (xZ Q2 (ET Q2 z1 qwZ.1 qwZ.2)) z7 z6 (fun l hl=>(qrC l hl).2) (Nat.le_trans z1 au) z2,?_⟩;have e:=qy5;rw[show uy uF (nO false false true) Q2 p2.1=some v from hv] at e;simp at e;omega
def EU:aG Tryz.prog 11 #[] (.bool true):=by
 have hkl:=qrA;have hkl2:((aA kA kB).map aW).length=2:=qrA;have hke:(if((aA kA kB).map aW).length=0 then(36:Int) else 0)=0:=if_neg (by rw[hkl2];decide)
 have hkx:(dY kW).length=1:=(by rw[qmt];rfl);have hk0:=k_0;have hkn:(dY kW)[0]? =some eIv:=(by rw[qmt];rfl);have kgz0:eU (fB kP)<=2:=by rw[qdi];exact qwv ae ae
 have kgz:eU (fB kP)<=50000:=Nat.le_trans kgz0 ae;refine pB0 77 Tryz.func11 fun w=>?_;refine A7 ?_;refine(Sc []) Lt (fun z=>?_);obtain⟨⟨ab,aN,ac,hac⟩,⟨bb,bN,bc,hbc⟩⟩:=z;refine qX ?_;refine(Sc [0,1]) (F7 kA ab aN ac hac au kB bb bN bc hbc au qur qus qwU qwV) (fun z=>?_);obtain⟨cb,cN,cc,hcc⟩:=z;refine A3 ?_;refine aP 15 (.int .i64 0) rfl (congrArg (Value.int .i64) hke) ?_;refine Al 10 z40 (fun g0=>?_);refine Ss 3 ?_;refine A7 ?_;refine Pc (iU 3 1) ?_;refine aP 18 (Q ((3:Int):Rat)) rfl (congrArg Q (sV 3)) ?_;refine(Sc [0,1]) (Dz jM uF kA ab aN ac hac au kB bb bN bc hbc au qur qus q3 (Nat.le_trans (nZ ae ae) ae) kW qwS k_W qyZ qy0 qy1 au) (fun z=>?_);obtain⟨xb,xN,xc,hxc⟩:=z;refine A4 ?_;refine Di [] ?_ (hc:=(qg (0::1::3::7::15::31::63::127::255::511::1023::511::4095::8191::16383::32767::65535::131071::262143::32767::557055::557055::2654207::7897087::16777215::33554431::67108863::134217727::134217727::134217727::1073741823::2147483647::4294967295::8589934591::17179869183::17179869183::68719476735::137438953471::274877906943::549755813887::549755813887::2199023255551::4398046511103::8796093022207::17592186044415::35184372088831::70368744177663::140737488355327::281474976710655::562949953421311::1125899906842623::2251799813685247::4503599627370495::1125899906842623::10133099161583615::36028797018963967::72057594037927935::144115188075855871::[]) ak));refine A2 ?_;refine aP 21 (.bool true) rfl (congrArg Value.bool au) ?_;refine A5 ?_;refine aP 26 (.bool true) rfl (congrArg Value.bool (decide_eq_true ae)) ?_;refine A3 ?_;refine L9 3 1 ?_;refine Kr 30 (RV (fB kP)) ?_;refine Pc (iq 13) ?_;refine zZ ?_;refine aP 32 (.bool true) rfl (congrArg Value.bool (decide_eq_true qdi)) ?_;refine A4 ?_;refine aJ 2 ((0)*38) u32 uj rfl rfl rfl rfl rfl ae ae (bP.ne au ae) Ag ?_;refine aT (v:=Kt eP1) 2 ((0)*38) _ rfl rfl rfl rfl uj (bP.sub hk0 0 38 au) rfl au rfl ?_;refine Pc (iq 2) ?_;refine(Bu [(1,_)]) (Tv) ?_;refine aP 40 (lC ⟨rl 0,rz 2,false,false⟩) rfl (qc9 _ _ _).symm ?_;refine Pc (iq 9) ?_;refine Pc (iq 13) ?_;refine(Bu [(0,_),(1,_),(2,_)]) (YE) ?_;refine Kr 43 (Kt eP1) ?_;refine mM rfl rfl rfl rfl qva (qvR _ _) ?_;refine aP 44 (.bool true) rfl (congrArg Value.bool (decide_eq_true rfl)) ?_;refine A4 ?_;refine L10 3 0 ?_;refine(Sd [0,1,2]) (wY jM kA ab aN ac hac au kB bb bN bc hbc au qur qus qwW kP cb cN cc hcc ae (fB kP) qyX ae qwX qyY) ?_;refine aP 50 (.int .i64 0) rfl (congrArg (Value.int .i64) qwT) ?_;refine A1 ?_;refine aP 51 (.bool true) rfl (congrArg Value.bool au) ?_;refine A2 ?_;refine L10 3 0 ?_;refine Pc (iU 4 1) ?_;refine aP 55 (Q ((4:Int):Rat)) rfl (congrArg Q (sV 4)) ?_;refine Pc (wZ cb kP.length cc (fB kP) ((4:Int):Rat) kgz (Nat.le_trans (nZ ae ae) ae)) ?_;refine aP 56 (.bool true) rfl (congrArg Value.bool (qyV)) ?_;refine A2 ?_;refine L10 3 0 ?_;refine Pc (iU 3 1) ?_;refine aP 60 (Q ((3:Int):Rat)) rfl (congrArg Q (sV 3)) ?_;refine Pc (wZ cb kP.length cc (fB kP) ((3:Int):Rat) kgz (Nat.le_trans (nZ ae ae) ae)) ?_;refine aP 61 (.bool false) rfl (congrArg Value.bool qyW) ?_;refine A6 ?_;refine aP 67 (.bool true) rfl (congrArg Value.bool (decide_eq_true ae)) ?_;refine A3 ?_;refine aJ 4 ((0)*20) Yb o7 rfl rfl rfl rfl rfl ae ae (dw.ne au ae) Jv ?_;refine aT (v:=lC eIv) 4 ((0)*20) _ rfl rfl rfl rfl o7 (dw.sub hkn 0 20 au) rfl au rfl ?_;refine Pc (iq 4) ?_;refine(Bu [(1,_),(2,_),(3,_)]) (VM) ?_;refine aP 74 (lC eIv) rfl (qc9 _ _ _).symm ?_;refine mM rfl rfl rfl rfl qu9 (qvN _ _) ?_;refine aP 75 (.bool true) rfl (congrArg Value.bool (decide_eq_true rfl)) ?_;refine zU ?_;exact rfl
def Gf(ta xa ya tb xb yb ch:Nat)(hta:ta<256)(hxa:xa<256)(hya:ya<256)(htb:tb<256)(hxb:xb<256)(hyb:yb<256)(hch:ch<256)(a:List ug)(ab:Option Nat)(pa:List Value)(aN ac:Nat)(hac:a.length<=ac)(has:∀s∈a,okS s)(b:List ug)(bb:Option Nat)(pb:List Value)(bN bc:Nat)(hbc:b.length<=bc)(hbs:∀s∈b,okS s)(kd pc:Nat)(hkd:kd<256)(hpc:pc<256)(n e:Int)(up dn:Nat)(hn1: -9223372036854775808<=n:=by omega)(hn2:n<=9223372036854775807:=by omega)(he1: -9223372036854775808<=e:=by omega)(he2:e<=9223372036854775807:=by omega)(hup:up<256:=by omega)(hdn:dn<256:=by omega):bQ Tryz.prog 5 [⟨ab,86,pa++ai jZ a,aN,false⟩,⟨bb,86,pb++ai jZ b,bN,false⟩] [.agg #[.int .u8 (ta:Nat),.int .u8 (xa:Nat),.int .u8 (ya:Nat),aB ab pa.length a.length ac,.int .u8 (tb:Nat),.int .u8 (xb:Nat),.int .u8 (yb:Nat),aB bb pb.length b.length bc,.int .u8 (ch:Nat)],.agg #[.int .u8 (kd:Nat),.int .u8 (pc:Nat),.int .i64 n,.int .i64 e,.int .u8 (up:Nat),.int .u8 (dn:Nat)]] Unit (fun _=> .bool true) (fun _=>[]):=by
 refine⟨ak,fun w hL0=>?_⟩;have hqz:=qkr (up:=up) (dn:=dn) hn1 hn2 he1 he2;refine cB2 35 Tryz.func5 hL0 ?_;refine A2 ?_;refine Bo [_,_,_,_,_,_,_,_,_] 9 (fun g=>[_,_,⟨some g,26,_,9,true⟩]) (fun g0=>?_);refine Bo [_,_,_,_,_,_] 6 (fun g=>[_,_,_,⟨some g,57,_,6,true⟩]) (fun g1=>?_);refine A6 ?_;refine Pc (EU) ?_;refine A1 ?_;refine aP 9 (.bool false) rfl rfl ?_;refine A1 ?_;refine aT 2 0 [_,_,_,_,_,_,_,_,_] rfl rfl rfl rfl qu3 rfl rfl rfl rfl ?_;refine Pc (Qr ta xa ya tb xb yb ch a b ab bb pa pb ac bc) ?_;refine A4 ?_;refine jA rfl (fun hb0=>?_) (fun hb0=>?_)
 ·
  refine A2 ?_;refine Pc (EU) ?_;refine A5 ?_;exact qan
 ·
  have hf6:=hb0
  obtain⟨ha6,hb6⟩:a.length<=6∧b.length<=6:=by simpa using hf6
  obtain⟨A,hA⟩:∃A,jF ta xa ya a=A:=⟨_,rfl⟩
  obtain⟨B,hB⟩:∃B,qU ta xa ya a tb xb yb b ch=B:=⟨_,rfl⟩
  have F:Fl A B:=by rw[<-hA,<-hB];exact quc ha6 hb6
  have hn42:((aA A B).map aW).length<=42:=F.n;refine A4 ?_;refine aT 2 0 [_,_,_,_,_,_,_,_,_] rfl rfl rfl rfl qu3 rfl rfl rfl rfl ?_;refine iJ [_] [0,1] rfl rfl rfl (qmr hA hB hta hxa hya htb hxb hyb hch aN ac hac ha6 has bN bc hbc hb6 hbs) ⟨⟨_,rfl,aF.le_refl _⟩,⟨_,rfl,aF.le_refl _⟩,trivial⟩ rfl (.inr fun x b hb=>qqp) (fun z=>?_);obtain⟨⟨ub,uN,uc,huc⟩,⟨vb,vN,vc,hvc⟩⟩:=z;refine A8 ?_;refine DT (l':=[⟨_,_,_,_,_,_⟩,⟨_,_,_,_,_,_⟩,⟨_,_,_,_,_,_⟩,⟨_,_,_,_,_,_⟩,⟨_,_,_,_,_,_⟩,⟨_,_,_,_,_,_⟩,⟨_,_,_,_,_,_⟩]) [3000000] [0,1,3,2,4,5,6] mixed ak rfl ?_;refine A2 ?_;refine aT 3 0 [_,_,_,_,_,_] rfl rfl rfl rfl qxw rfl rfl rfl rfl ?_;refine iJ [_,_] [4,5] rfl rfl rfl (Qs A ub uN uc huc (Nat.le_trans F.la ae) B vb vN vc hvc (Nat.le_trans F.lb ae) F.sa F.sb F.H) ⟨⟨_,rfl,iC⟩,⟨_,rfl,iC⟩,trivial⟩ rfl (.inr fun x b hb=>xO) (fun z=>?_);obtain⟨wb,wN,wc,hwc⟩:=z;refine iJ [_,_] [6] rfl rfl rfl (Ls ((aA A B).map aW) wb wN wc hwc ae (qZ ((aA A B).map aW)) kd pc hkd hpc n e up dn hn1 hn2 he1 he2 hup hdn F.sz5 (Nat.le_trans F.mostz ae)) ⟨⟨_,rfl,iC⟩,trivial⟩ rfl (.inr fun x b hb=>xO) (fun z=>?_);obtain⟨ob,oN,oc,hoc⟩:=z;refine DR [_,_,_,_,_,_,_,_,_,_] 10 (fun g=>[_,_,_,_,_,_,_,_,⟨some g,40,_,10,true⟩]) rfl rfl z40 rfl rfl (fun _=>rfl) (fun g2=>?_);refine So 8 0 [_,_,_,_,_,_,_,_,⟨some g2,40,_,10,true⟩] [_,_,_,_,_,_,_,_,_,_] ?_;refine A3 ?_;refine MS (l':=[⟨_,_,_,_,_,_⟩,⟨_,_,_,_,_,_⟩,⟨_,_,_,_,_,_⟩,⟨_,_,_,_,_,_⟩,⟨_,_,_,_,_,_⟩,⟨_,_,_,_,_,_⟩,⟨_,_,_,_,_,_⟩,⟨_,_,_,_,_,_⟩,⟨_,_,_,_,_,_⟩,⟨_,_,_,_,_,_⟩]) [] [0,1,2,4,5,6,3,7,8,9] mixed ak rfl ak ?_;refine A2 ?_;refine aT 8 0 [_,_,_,_,_,_,_,_,_,_] rfl rfl rfl rfl P6 rfl rfl rfl rfl ?_;refine A2 ?_;refine aT 8 0 [_,_,_,_,_,_,_,_,_,_] rfl rfl rfl rfl P6 rfl rfl rfl rfl ?_;refine iD [_,_,_] [4,5,7] rfl rfl rfl (qwR F ub uN uc huc vb vN vc hvc (wW ((aA A B).map aW) (kd%10) (pc% ((aA A B).map aW).length) (qL n e up dn)) ob oN oc hoc (Nat.le_trans qdg hn42) (Qq ((aA A B).map aW) (qZ ((aA A B).map aW)) (kd%10) (qL n e up dn)) (F.chz hqz) (qms hqz F.mostz) F.chr) ⟨⟨_,rfl,iC⟩,⟨_,rfl,iC⟩,⟨_,rfl,iC⟩,trivial⟩ rfl ?_;refine iD [_,_,_] [4,5,7] rfl rfl rfl (Qv A ub uN uc huc (Nat.le_trans F.la ae) B vb vN vc hvc (Nat.le_trans F.lb ae) F.sa F.sb F.H (wW ((aA A B).map aW) (kd%10) (pc% ((aA A B).map aW).length) (qL n e up dn)) ob oN oc hoc (Nat.le_trans qdg ae) (Qq ((aA A B).map aW) (qZ ((aA A B).map aW)) (kd%10) (qL n e up dn)) (F.chz hqz) (qms hqz F.mostz)) ⟨⟨_,rfl,iC⟩,⟨_,rfl,iC⟩,⟨_,rfl,iC⟩,trivial⟩ rfl ?_;refine A1 ?_;refine aP 34 (.bool true) rfl (congrArg Value.bool (beq_self_eq_true _)) ?_;refine A4 ?_;exact qan
end Go.Proofs.YtaffcpfhedadhaaGreatDoor
