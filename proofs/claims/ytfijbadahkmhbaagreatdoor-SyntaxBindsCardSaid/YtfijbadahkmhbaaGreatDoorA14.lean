/-
  Part 14 (chapter 43): lemmas, walks. Each theorem states its own conditions.
-/
import Derived.Test.YtfijbadahkmhbaaGreatDoorA04
import Derived.Test.YtfijbadahkmhbaaGreatDoorA07
import Derived.Test.YtfijbadahkmhbaaGreatDoorA10
import Derived.Test.YtfijbadahkmhbaaGreatDoorA11
import Derived.Test.YtfijbadahkmhbaaGreatDoorA12
import Derived.Test.YtfijbadahkmhbaaGreatDoorA13
set_option linter.unusedVariables false
set_option linter.unusedSimpArgs false
set_option maxRecDepth 20000
set_option maxHeartbeats 20000000
namespace Go.Proofs.YtfijbadahkmhbaaGreatDoor
open Go Go.RowKit Go.Via
theorem c_slIndex(b:Option Nat)(e:Nat)(pre:List Value)(l:List Bs8)(n cap:Nat)(hll:l.length≤1000000)(v:Bs8):ECall Tryz.prog 98 [VBk b e pre l n] [slv b pre.length l.length cap,.string (strU v)] Unit (fun _=> .int .i64 (idxV (idxB l v))) (fun _=>[]):=by
 refine⟨by kernel_rfl,fun B w hD hL0=>?_⟩;refine cB2 19 Tryz.func98 hL0 ?_;refine A14 ?_;refine El (ι:={i:Nat // i≤l.length∧idxB l v=(idxB (l.drop i) v).map (· +i)}) (fun⟨i,hi,hI⟩=>([(0,slv b pre.length l.length cap),(1,.string (strU v)),(7,.int .i64 (l.length:Nat)),(8,.int .i64 (i:Nat))],[VBk b e pre l n],l.length-i)) ⟨0,Nat.zero_le _,by rw[List.drop_zero];cases idxB l v<;>rfl⟩ ?_ (hL:=Weak.auto);rintro⟨i,hi,hI⟩;(try dsimp only);refine A6 ?_;refine Cd ?_ ?_<;>intro hb1
 ·have hlt:i<l.length:=(by have:=of_decide_eq_true hb1;omega);obtain⟨a,ha⟩:∃a,l[i]? =some a:=⟨l[i],List.getElem?_eq_getElem hlt⟩;refine A15 ?_;refine r_indexAddr 0 (pre.length+i*1) u36 ti9 rfl rfl rfl rfl rfl (by omega) (by omega) (pre_ne (SB_ne (by omega))) (by show _+Int.toNat _*1=_;omega) ?_;refine r_load (v:= .string (strU a)) 0 (pre.length+i*1) _ rfl rfl rfl rfl ti9 (pre_get (SB_get ha) rfl) rfl (by decide) rfl ?_;refine A1 ?_;refine r_know 16 (.bool (v==a)) rfl (congrArg Value.bool (strU_beq v a)) ?_;refine A2 ?_;refine Cd ?_ ?_<;>intro hb2
  ·have hva:v=a:=by have hh:=hb2;simpa using hh
   refine A12 ?_;refine at_end1 rfl (res_tmp rfl) (fun w hL=>⟨(),by rw[idxB_here (by rw[ha,hva]) hI];rfl,hL.pk []⟩)
  ·have hva:v≠a:=by have hh:=hb2;simpa using hh
   refine A4 ?_;refine Ar (((i+1:Nat):Int)) ?_;refine A3 ?_;exact Nl ⟨i+1,hlt,idxB_step ha (fun e=>hva e.symm) hI⟩ (hL:=Weak.auto)
 ·have hge:l.length≤i:=(by have:=of_decide_eq_false hb1;omega);refine A11 ?_;refine at_end1 rfl (res_tmp rfl) (fun w hL=>⟨(),by rw[idxB_end hge hI];rfl,hL.pk []⟩)
theorem c_bound_step(names:List Bs8)(ids:List Int)(hN:names.length≤1000000)(hE:names.length=ids.length)(hI:∀id∈ids,-9223372036854775808≤id∧id≤9223372036854775807){x:XT}(z:XR x)(H:∀y:XT,y.size<x.size→BouC 71 names ids y)(b1:Option Nat)(e1:Nat)(p1:List Value)(n1 c1:Nat)(b2:Option Nat)(e2:Nat)(p2:List Value)(n2 c2:Nat)(hM:x.size≤1000000):ECall Tryz.prog 71 [gB z.T false,VBk b1 e1 p1 names n1,VIk b2 e2 p2 ids n2] [z.v,slv b1 p1.length names.length c1,slv b2 p2.length ids.length c2] (XR (bindX names ids x)) (fun u=>u.v) (fun u=>[gB u.T true]):=by
 refine⟨by kernel_rfl,fun B w hD hL0=>?_⟩;obtain⟨h1,h2,h3,h4,h5,h6⟩:=z.inv;refine cB3 48 Tryz.func71 hL0 ?_;refine A2 ?_;refine Bo [_,_,_,_,_,_,_] 7 (fun g=>[_,_,_,⟨some g,30,_,7,true⟩]) (fun g0=>?_);refine r_alloc [_,_,_,_,_,_,_] 7 (fun g=>[_,_,_,_,⟨some g,30,_,7,true⟩]) rfl rfl z30 rfl rfl (fun _=>rfl) (fun g1=>?_);refine A4 ?_;refine at_regionM ?_;refine A3 ?_;refine r_know 13 (.string (strU x.name)) rfl (by rw[h2]) ?_;refine r_scall0 [slv b1 p1.length names.length c1,.string (strU x.name)] [1] rfl rfl rfl (ECall.toS (c_slIndex b1 e1 p1 names n1 c1 hN x.name)) ⟨⟨_,rfl,Blk.le_refl _⟩,trivial⟩ rfl ?_;refine A7 ?_;refine Kp 16 h1 ?_;refine A2 ?_;refine Rs 18 ?_ ?_<;>intro hb0
 ·have hop:x.op=4:=by have hh:=hb0;simpa using hh
  refine A5 ?_;refine Cd ?_ ?_<;>intro hb1
  ·obtain⟨i,hix⟩:∃i,idxB names x.name=some i:=by
    cases hq:idxB names x.name with
    |none=>rw[hq] at hb1;exact absurd hb1 (by decide)
    |some i=>exact⟨i,rfl⟩
   have hil:=(idxB_lt hix).1;obtain⟨id,hid⟩:∃id,ids[i]? =some id:=⟨ids[i],List.getElem?_eq_getElem (by omega)⟩;have hob:objB names ids x.name=some id:=(by unfold objB;rw[hix];exact hid);have hIi:=hI id (List.mem_of_getElem? hid);refine A4 ?_;refine r_know 23 (.int .i64 (i:Nat)) rfl (by rw[hix];rfl) ?_;refine r_indexAddr 2 (p2.length+i*1) u57 ti3 rfl rfl rfl rfl rfl (by omega) (by omega) (pre_ne (inC_ne (by omega))) (by show _+Int.toNat _*1=_;omega) ?_;refine r_load (v:= .int .i64 id) 2 (p2.length+i*1) _ rfl rfl rfl rfl ti3 (pre_get (inC_get hid) rfl) rfl (by decide) rfl ?_;refine Pc (c_rational_FromInt id hIi.1 hIi.2) ?_;refine r_build [(0,_),(2,_)] rfl rfl rfl (bd30_0_2x) ?_;refine So 4 0 [_,_,_,_,⟨some g1,30,_,7,true⟩] [_,_,_,_,_,_,_] ?_;refine A4 ?_;refine at_end1 rfl (res_cell 4 rfl rfl ti30 (vs:=[_,_,_,_,_,_,_]) rfl rfl (Nat.le_of_ble_eq_true rfl) rfl) (fun w hL=>⟨(XR.num (id:Rat) 3).cast (bindX_obj hop hob).symm,(show Ending.returned (XR.num (id:Rat) 3).v=Ending.returned ((XR.num (id:Rat) 3).cast (bindX_obj hop hob).symm).v from congrArg Ending.returned (XR.cast_v _ _).1.symm),(congrArg (fun T=>LRel B [gB T true] w) (XR.cast_v _ _).2).mpr ((show Weak _ [gB [] true] from Weak.trans (B:=[]) (weak_picks [] trivial rfl rfl) (Weak.newG [])) _ _ hL)⟩)
  ·have hob:objB names ids x.name=none:=by
    cases hq:idxB names x.name with
    |none=>unfold objB;rw[hq];rfl
    |some i=>rw[hq] at hb1;exact absurd (of_decide_eq_false hb1) (by show¬¬((0:Int)≤(i:Nat));omega)
   refine A12 ?_;refine So 3 6 [_,_,_,⟨some g0,30,_,7,true⟩,_] [_,_,_,_,_,_,_] ?_;refine A7 ?_;refine r_know 32 (.int .i64 (x.args.length:Nat)) rfl (by rw[h5]) ?_;refine A4 ?_;refine El (ι:=BndS names ids x) (fun⟨i,l,w,hi,hl⟩=>([(1,slv b1 p1.length names.length c1),(2,slv b2 p2.length ids.length c2),(3,.pointer (some ⟨g0,0,none⟩)),(6,.pointer (some ⟨g1,0,none⟩)),(31,.slice z.a z.n z.cap),(32,.int .i64 (x.args.length:Nat)),(33,.int .i64 (i:Nat))],[gB z.T false,VBk b1 e1 p1 names n1,VIk b2 e2 p2 ids n2,AG g0 x.op x.name z.b1 z.s1 z.b2 z.s2 w,ZB g1,gB w.T true,⟨w.b,30,w.cs,w.n,true⟩],x.args.length-i)) ⟨0,[],XA.zero,Nat.zero_le _,by rw[List.take_zero,bindXs]⟩ ?_ (hL:=(Weak.trans (B:=[gB z.T false,VBk b1 e1 p1 names n1,VIk b2 e2 p2 ids n2,AG g0 x.op x.name z.b1 z.s1 z.b2 z.s2 XA.zero,ZB g1]) (weak_picks [some 0,some 1,some 2,some 3,some 4] ⟨⟨_,rfl,Blk.le_refl _⟩,⟨_,rfl,Blk.le_refl _⟩,⟨_,rfl,Blk.le_refl _⟩,⟨_,rfl,le_same (by show(⟨some g0,30,[.int .i64 x.op,.string (strU x.name),_,_,_,_,_],7,true⟩:Blk)=_;rw[←h1,←h2];rfl)⟩,⟨_,rfl,Blk.le_refl _⟩,trivial⟩ rfl rfl) (Weak.trans (Weak.newG _) (Weak.nilB _ (by decide)))));rintro⟨i,l,w,hi,hl⟩;(try dsimp only);refine A6 ?_;refine Cd ?_ ?_<;>intro hb3
   ·have hlt:i<x.args.length:=by have:=of_decide_eq_true hb3;omega
    obtain⟨y,hy⟩:∃y,x.args[i]? =some y:=⟨x.args[i],List.getElem?_eq_getElem hlt⟩;obtain⟨ga,oa,ca,u,hza,hma,hra,hTa,hna⟩:=z.arg hy;have hlen:=bnd_len hi hl;have hal:=XT.len_sizes x.args;have hsz:=XT.size_eq x;refine A6 ?_;refine r_indexAddrG (gg:=ga) (len:=z.n) (cap:=z.cap) (oa+i*7) u28 ti30 rfl rfl (congrArg (fun a=>some (Value.slice a z.n z.cap)) hza) rfl (by omega) (by omega) (by show oa+Int.toNat _*7=_;omega) ?_;refine r_loadT (v:=u.v) 0 (oa+i*7) u.cs rfl rfl rfl z.hT hma hna rfl ti30 hra rfl rfl rfl ?_;refine r_alloc [_,_,_,_,_,_,_] 7 (fun g=>[_,_,_,_,_,_,_,⟨some g,30,_,7,true⟩]) rfl rfl z30 rfl rfl (fun _=>rfl) (fun g2=>?_);refine So 7 0 [_,_,_,_,_,_,_,⟨some g2,30,_,7,true⟩] [_,_,_,_,_,_,_] ?_;refine A2 ?_;refine at_drawnEM (X:=XR (bindX names ids y)×Nat×AR (l.length+1) 7) (l':=[⟨_,_,_,_,_,_⟩,⟨_,_,_,_,_,_⟩]) (fun⟨u1,g3,ar⟩=>[(1,slv b1 p1.length names.length c1),(2,slv b2 p2.length ids.length c2),(3,.pointer (some ⟨g0,0,none⟩)),(6,.pointer (some ⟨g1,0,none⟩)),(31,.slice z.a z.n z.cap),(32,.int .i64 (x.args.length:Nat)),(33,.int .i64 (i:Nat))]) (fun⟨u1,g3,ar⟩=>[gB z.T false,VBk b1 e1 p1 names n1,VIk b2 e2 p2 ids n2,⟨some g0,30,[.int .i64 x.op,.string (strU x.name),.bool z.b1,.string z.s1,.bool z.b2,.string z.s2,slv (some ar.g) 0 (l.length+1) ar.cap],7,true⟩,ZB g1,gB w.T true,⟨some ar.g,30,w.cs++u1.cs,ar.n,true⟩,⟨some g2,30,u.cs,7,true⟩,gB u1.T true,⟨some g3,30,u1.cs,7,true⟩]) [3,4] 8 mixed (by kernel_rfl) rfl ?_ ?_
    ·refine A3 ?_;refine Tn2 0 2 ?_ ?_
     repeat' first
      |(refine q_append (b:=⟨w.b,30,w.cs,w.n,true⟩) (len:=l.length) (cap:=w.cap) (n2:=1) 6 9 (fun ar=>[_,_,_,_,_,_,⟨some ar.g,30,w.cs++u1.cs,ar.n,true⟩,_,_,_]) u28 el30 rfl rfl rfl rfl rfl rfl rfl rfl rfl rfl rfl rfl w.hlen w.hcap w.hn rfl (fun v hv=>simpleT_one u1.cs_simple v hv) (by omega) (fun ar=>rfl) (fun ar=>?_);refine A1 ?_;refine Td1 8 ?_)
      |(refine A2 ?_;refine Td1 9 ?_)
      |(refine r_buildSlice [(0,_)] (fun g=>[_,_,_,_,_,_,_,_,_,⟨some g,30,_,7,true⟩]) rfl rfl rfl (bs28_1) rfl (fun _=>rfl) (fun g3=>?_);refine A1 ?_;refine Td1 7 ?_)
      |(refine A2 ?_;refine Td1 7 ?_)
      |(refine Gm 0 [] [0,1,2] (fun(u1:XR (bindX names ids y))=>[_,_,_,_,_,_,_,_,gB u1.T true]) (by have h:=H y (XT.arg_lt hy) u b1 e1 p1 n1 c1 b2 e2 p2 n2 c2 (by have:=XT.sizes_get hy;have:=XT.size_eq x;omega);rw[hTa] at h;exact h) (fun u1=>?_);refine A1 ?_;refine Td1 6 ?_)
      |(refine A2 ?_;refine Td1 6 ?_)
      |(refine r_buildSlice [(0,_)] (fun g=>[_,_,_,_,_,_,_,_,_,⟨some g,30,_,7,true⟩]) rfl rfl rfl (bs28_1) rfl (fun _=>rfl) (fun g3=>?_);refine A1 ?_;refine Td1 1 ?_)
      |(refine A2 ?_;refine Td1 5 ?_)
      |(refine Gm 0 [] [0,1,2] (fun(u1:XR (bindX names ids y))=>[_,_,_,_,_,_,_,_,gB u1.T true]) (by have h:=H y (XT.arg_lt hy) u b1 e1 p1 n1 c1 b2 e2 p2 n2 c2 (by have:=XT.sizes_get hy;have:=XT.size_eq x;omega);rw[hTa] at h;exact h) (fun u1=>?_);refine A1 ?_;refine Td2 1 6 ?_ ?_)
      |(refine A2 ?_;refine Td2 1 2 ?_ ?_)
      |(refine A2 ?_;refine Td1 2 ?_)
      |(refine r_load (v:=u.v) 7 0 [_,_,_,_,_,_,_] rfl rfl rfl rfl ti30 rfl rfl rfl rfl ?_;refine A1 ?_;refine Td1 5 ?_)
      |(refine r_load (v:=u.v) 7 0 [_,_,_,_,_,_,_] rfl rfl rfl rfl ti30 rfl rfl rfl rfl ?_;refine A1 ?_;refine Td2 1 5 ?_ ?_)
      |(refine r_load (v:=u.v) 7 0 [_,_,_,_,_,_,_] rfl rfl rfl rfl ti30 rfl rfl rfl rfl ?_;refine A1 ?_;refine Td2 0 5 ?_ ?_)
      |(refine A2 ?_;refine Td2 1 5 ?_ ?_)
      |(refine Gm 0 [] [0,1,2] (fun(u1:XR (bindX names ids y))=>[_,_,_,_,_,_,_,_,gB u1.T true]) (by have h:=H y (XT.arg_lt hy) u b1 e1 p1 n1 c1 b2 e2 p2 n2 c2 (by have:=XT.sizes_get hy;have:=XT.size_eq x;omega);rw[hTa] at h;exact h) (fun u1=>?_);refine A1 ?_;refine Td2 0 6 ?_ ?_)
      |(refine A2 ?_;refine Td2 1 6 ?_ ?_)
      |(refine r_buildSlice [(0,_)] (fun g=>[_,_,_,_,_,_,_,_,_,⟨some g,30,_,7,true⟩]) rfl rfl rfl (bs28_1) rfl (fun _=>rfl) (fun g3=>?_);refine A1 ?_;refine Td1 0 ?_)
      |(refine A2 ?_;refine Td1 1 ?_)
      |(refine So 3 6 [_,_,_,⟨some g0,30,_,7,true⟩,_,_,_,_,_,_] [_,_,_,_,_,_,_] ?_;refine A1 ?_;refine tr_nil (by decide+kernel) ?_;exact⟨⟨u1,g3,ar⟩,rfl,⟨rfl,rfl,rfl,rfl,rfl,rfl,rfl,trivial⟩,List.Perm.refl _⟩)
    rintro⟨u1,g3,ar⟩;show At _ ⟨48,[(1,slv b1 p1.length names.length c1),(2,slv b2 p2.length ids.length c2),(3,.pointer (some ⟨g0,0,none⟩)),(6,.pointer (some ⟨g1,0,none⟩)),(31,.slice z.a z.n z.cap),(32,.int .i64 (x.args.length:Nat)),(33,.int .i64 (i:Nat))],[gB z.T false,VBk b1 e1 p1 names n1,VIk b2 e2 p2 ids n2,⟨some g0,30,[.int .i64 x.op,.string (strU x.name),.bool z.b1,.string z.s1,.bool z.b2,.string z.s2,slv (some ar.g) 0 (l.length+1) ar.cap],7,true⟩,ZB g1,gB w.T true,⟨some ar.g,30,w.cs++u1.cs,ar.n,true⟩,⟨some g2,30,u.cs,7,true⟩,gB u1.T true,⟨some g3,30,u1.cs,7,true⟩]⟩ _;refine A3 ?_;refine Ar (((i+1:Nat):Int)) ?_;refine A3 ?_;exact Nl ⟨i+1,l++[bindX names ids y],w.add u1 ar,hlt,by rw[bindXs_take hy,hl]⟩ (hL:=(weak_addB w u1 ar))
   ·have hge:i=x.args.length:=by have:=of_decide_eq_false hb3;omega
    have hlen:=bnd_len hi hl;refine A7 ?_;refine Ld 3 0 [_,_,_,_,_,_,_] ti30 ?_;refine So 4 0 [_,_,_,_,⟨some g1,30,_,7,true⟩,_,_] [_,_,_,_,_,_,_] ?_;refine A3 ?_;refine at_end1 rfl (res_cell 4 rfl rfl ti30 (vs:=[_,_,_,_,_,_,_]) rfl rfl (Nat.le_of_ble_eq_true rfl) rfl) (fun w2 hL=>by
 have e1:XT.mk x.op x.name x.num l=bindX names ids x:=(by rw[bindX_no (.inr hob),hl,hge,List.take_of_length_le (Nat.le_refl _)]);exact⟨(w.finG x.op x.name h3).cast e1,(show Ending.returned (w.finG x.op x.name h3).v=Ending.returned ((w.finG x.op x.name h3).cast e1).v from congrArg Ending.returned (XR.cast_v _ _).1.symm),(congrArg (fun T=>LRel B [gB T true] w2) (XR.cast_v _ _).2).mpr ((Weak.trans (B:=[gB w.T true,⟨w.b,30,w.cs,w.n,true⟩]) (weak_pk [some 5,some 6]) (weak_fin w)) _ _ hL)⟩)
 ·have hop:x.op≠4:=by have hh:=hb0;simpa using hh
  refine A18 ?_;refine So 3 6 [_,_,_,⟨some g0,30,_,7,true⟩,_] [_,_,_,_,_,_,_] ?_;refine A7 ?_;refine r_know 32 (.int .i64 (x.args.length:Nat)) rfl (by rw[h5]) ?_;refine A4 ?_;refine El (ι:=BndS names ids x) (fun⟨i,l,w,hi,hl⟩=>([(1,slv b1 p1.length names.length c1),(2,slv b2 p2.length ids.length c2),(3,.pointer (some ⟨g0,0,none⟩)),(6,.pointer (some ⟨g1,0,none⟩)),(31,.slice z.a z.n z.cap),(32,.int .i64 (x.args.length:Nat)),(33,.int .i64 (i:Nat))],[gB z.T false,VBk b1 e1 p1 names n1,VIk b2 e2 p2 ids n2,AG g0 x.op x.name z.b1 z.s1 z.b2 z.s2 w,ZB g1,gB w.T true,⟨w.b,30,w.cs,w.n,true⟩],x.args.length-i)) ⟨0,[],XA.zero,Nat.zero_le _,by rw[List.take_zero,bindXs]⟩ ?_ (hL:=(Weak.trans (B:=[gB z.T false,VBk b1 e1 p1 names n1,VIk b2 e2 p2 ids n2,AG g0 x.op x.name z.b1 z.s1 z.b2 z.s2 XA.zero,ZB g1]) (weak_picks [some 0,some 1,some 2,some 3,some 4] ⟨⟨_,rfl,Blk.le_refl _⟩,⟨_,rfl,Blk.le_refl _⟩,⟨_,rfl,Blk.le_refl _⟩,⟨_,rfl,le_same (by show(⟨some g0,30,[.int .i64 x.op,.string (strU x.name),_,_,_,_,_],7,true⟩:Blk)=_;rw[←h1,←h2];rfl)⟩,⟨_,rfl,Blk.le_refl _⟩,trivial⟩ rfl rfl) (Weak.trans (Weak.newG _) (Weak.nilB _ (by decide)))));rintro⟨i,l,w,hi,hl⟩;(try dsimp only);refine A6 ?_;refine Cd ?_ ?_<;>intro hb2
  ·have hlt:i<x.args.length:=by have:=of_decide_eq_true hb2;omega
   obtain⟨y,hy⟩:∃y,x.args[i]? =some y:=⟨x.args[i],List.getElem?_eq_getElem hlt⟩;obtain⟨ga,oa,ca,u,hza,hma,hra,hTa,hna⟩:=z.arg hy;have hlen:=bnd_len hi hl;have hal:=XT.len_sizes x.args;have hsz:=XT.size_eq x;refine A6 ?_;refine r_indexAddrG (gg:=ga) (len:=z.n) (cap:=z.cap) (oa+i*7) u28 ti30 rfl rfl (congrArg (fun a=>some (Value.slice a z.n z.cap)) hza) rfl (by omega) (by omega) (by show oa+Int.toNat _*7=_;omega) ?_;refine r_loadT (v:=u.v) 0 (oa+i*7) u.cs rfl rfl rfl z.hT hma hna rfl ti30 hra rfl rfl rfl ?_;refine r_alloc [_,_,_,_,_,_,_] 7 (fun g=>[_,_,_,_,_,_,_,⟨some g,30,_,7,true⟩]) rfl rfl z30 rfl rfl (fun _=>rfl) (fun g2=>?_);refine So 7 0 [_,_,_,_,_,_,_,⟨some g2,30,_,7,true⟩] [_,_,_,_,_,_,_] ?_;refine A2 ?_;refine at_drawnEM (X:=XR (bindX names ids y)×Nat×AR (l.length+1) 7) (l':=[⟨_,_,_,_,_,_⟩,⟨_,_,_,_,_,_⟩]) (fun⟨u1,g3,ar⟩=>[(1,slv b1 p1.length names.length c1),(2,slv b2 p2.length ids.length c2),(3,.pointer (some ⟨g0,0,none⟩)),(6,.pointer (some ⟨g1,0,none⟩)),(31,.slice z.a z.n z.cap),(32,.int .i64 (x.args.length:Nat)),(33,.int .i64 (i:Nat))]) (fun⟨u1,g3,ar⟩=>[gB z.T false,VBk b1 e1 p1 names n1,VIk b2 e2 p2 ids n2,⟨some g0,30,[.int .i64 x.op,.string (strU x.name),.bool z.b1,.string z.s1,.bool z.b2,.string z.s2,slv (some ar.g) 0 (l.length+1) ar.cap],7,true⟩,ZB g1,gB w.T true,⟨some ar.g,30,w.cs++u1.cs,ar.n,true⟩,⟨some g2,30,u.cs,7,true⟩,gB u1.T true,⟨some g3,30,u1.cs,7,true⟩]) [3,4] 8 mixed (by kernel_rfl) rfl ?_ ?_
   ·refine A3 ?_;refine Tn2 0 2 ?_ ?_
    repeat' first
     |(refine q_append (b:=⟨w.b,30,w.cs,w.n,true⟩) (len:=l.length) (cap:=w.cap) (n2:=1) 6 9 (fun ar=>[_,_,_,_,_,_,⟨some ar.g,30,w.cs++u1.cs,ar.n,true⟩,_,_,_]) u28 el30 rfl rfl rfl rfl rfl rfl rfl rfl rfl rfl rfl rfl w.hlen w.hcap w.hn rfl (fun v hv=>simpleT_one u1.cs_simple v hv) (by omega) (fun ar=>rfl) (fun ar=>?_);refine A1 ?_;refine Td1 8 ?_)
     |(refine A2 ?_;refine Td1 9 ?_)
     |(refine r_buildSlice [(0,_)] (fun g=>[_,_,_,_,_,_,_,_,_,⟨some g,30,_,7,true⟩]) rfl rfl rfl (bs28_1) rfl (fun _=>rfl) (fun g3=>?_);refine A1 ?_;refine Td1 7 ?_)
     |(refine A2 ?_;refine Td1 7 ?_)
     |(refine Gm 0 [] [0,1,2] (fun(u1:XR (bindX names ids y))=>[_,_,_,_,_,_,_,_,gB u1.T true]) (by have h:=H y (XT.arg_lt hy) u b1 e1 p1 n1 c1 b2 e2 p2 n2 c2 (by have:=XT.sizes_get hy;have:=XT.size_eq x;omega);rw[hTa] at h;exact h) (fun u1=>?_);refine A1 ?_;refine Td1 6 ?_)
     |(refine A2 ?_;refine Td1 6 ?_)
     |(refine r_buildSlice [(0,_)] (fun g=>[_,_,_,_,_,_,_,_,_,⟨some g,30,_,7,true⟩]) rfl rfl rfl (bs28_1) rfl (fun _=>rfl) (fun g3=>?_);refine A1 ?_;refine Td1 1 ?_)
     |(refine A2 ?_;refine Td1 5 ?_)
     |(refine Gm 0 [] [0,1,2] (fun(u1:XR (bindX names ids y))=>[_,_,_,_,_,_,_,_,gB u1.T true]) (by have h:=H y (XT.arg_lt hy) u b1 e1 p1 n1 c1 b2 e2 p2 n2 c2 (by have:=XT.sizes_get hy;have:=XT.size_eq x;omega);rw[hTa] at h;exact h) (fun u1=>?_);refine A1 ?_;refine Td2 1 6 ?_ ?_)
     |(refine A2 ?_;refine Td2 1 2 ?_ ?_)
     |(refine A2 ?_;refine Td1 2 ?_)
     |(refine r_load (v:=u.v) 7 0 [_,_,_,_,_,_,_] rfl rfl rfl rfl ti30 rfl rfl rfl rfl ?_;refine A1 ?_;refine Td1 5 ?_)
     |(refine r_load (v:=u.v) 7 0 [_,_,_,_,_,_,_] rfl rfl rfl rfl ti30 rfl rfl rfl rfl ?_;refine A1 ?_;refine Td2 1 5 ?_ ?_)
     |(refine r_load (v:=u.v) 7 0 [_,_,_,_,_,_,_] rfl rfl rfl rfl ti30 rfl rfl rfl rfl ?_;refine A1 ?_;refine Td2 0 5 ?_ ?_)
     |(refine A2 ?_;refine Td2 1 5 ?_ ?_)
     |(refine Gm 0 [] [0,1,2] (fun(u1:XR (bindX names ids y))=>[_,_,_,_,_,_,_,_,gB u1.T true]) (by have h:=H y (XT.arg_lt hy) u b1 e1 p1 n1 c1 b2 e2 p2 n2 c2 (by have:=XT.sizes_get hy;have:=XT.size_eq x;omega);rw[hTa] at h;exact h) (fun u1=>?_);refine A1 ?_;refine Td2 0 6 ?_ ?_)
     |(refine A2 ?_;refine Td2 1 6 ?_ ?_)
     |(refine r_buildSlice [(0,_)] (fun g=>[_,_,_,_,_,_,_,_,_,⟨some g,30,_,7,true⟩]) rfl rfl rfl (bs28_1) rfl (fun _=>rfl) (fun g3=>?_);refine A1 ?_;refine Td1 0 ?_)
     |(refine A2 ?_;refine Td1 1 ?_)
     |(refine So 3 6 [_,_,_,⟨some g0,30,_,7,true⟩,_,_,_,_,_,_] [_,_,_,_,_,_,_] ?_;refine A1 ?_;refine tr_nil (by decide+kernel) ?_;exact⟨⟨u1,g3,ar⟩,rfl,⟨rfl,rfl,rfl,rfl,rfl,rfl,rfl,trivial⟩,List.Perm.refl _⟩)
   rintro⟨u1,g3,ar⟩;show At _ ⟨48,[(1,slv b1 p1.length names.length c1),(2,slv b2 p2.length ids.length c2),(3,.pointer (some ⟨g0,0,none⟩)),(6,.pointer (some ⟨g1,0,none⟩)),(31,.slice z.a z.n z.cap),(32,.int .i64 (x.args.length:Nat)),(33,.int .i64 (i:Nat))],[gB z.T false,VBk b1 e1 p1 names n1,VIk b2 e2 p2 ids n2,⟨some g0,30,[.int .i64 x.op,.string (strU x.name),.bool z.b1,.string z.s1,.bool z.b2,.string z.s2,slv (some ar.g) 0 (l.length+1) ar.cap],7,true⟩,ZB g1,gB w.T true,⟨some ar.g,30,w.cs++u1.cs,ar.n,true⟩,⟨some g2,30,u.cs,7,true⟩,gB u1.T true,⟨some g3,30,u1.cs,7,true⟩]⟩ _;refine A3 ?_;refine Ar (((i+1:Nat):Int)) ?_;refine A3 ?_;exact Nl ⟨i+1,l++[bindX names ids y],w.add u1 ar,hlt,by rw[bindXs_take hy,hl]⟩ (hL:=(weak_addB w u1 ar))
  ·have hge:i=x.args.length:=by have:=of_decide_eq_false hb2;omega
   have hlen:=bnd_len hi hl;refine A7 ?_;refine Ld 3 0 [_,_,_,_,_,_,_] ti30 ?_;refine So 4 0 [_,_,_,_,⟨some g1,30,_,7,true⟩,_,_] [_,_,_,_,_,_,_] ?_;refine A3 ?_;refine at_end1 rfl (res_cell 4 rfl rfl ti30 (vs:=[_,_,_,_,_,_,_]) rfl rfl (Nat.le_of_ble_eq_true rfl) rfl) (fun w2 hL=>by
 have e1:XT.mk x.op x.name x.num l=bindX names ids x:=(by rw[bindX_no (.inl hop),hl,hge,List.take_of_length_le (Nat.le_refl _)]);exact⟨(w.finG x.op x.name h3).cast e1,(show Ending.returned (w.finG x.op x.name h3).v=Ending.returned ((w.finG x.op x.name h3).cast e1).v from congrArg Ending.returned (XR.cast_v _ _).1.symm),(congrArg (fun T=>LRel B [gB T true] w2) (XR.cast_v _ _).2).mpr ((Weak.trans (B:=[gB w.T true,⟨w.b,30,w.cs,w.n,true⟩]) (weak_pk [some 5,some 6]) (weak_fin w)) _ _ hL)⟩)
theorem c_law_bind_step(names:List Bs8)(ids:List Int)(hN:names.length≤1000000)(hIl:ids.length≤1000000)(hI:∀id∈ids,-9223372036854775808≤id∧id≤9223372036854775807){x:XT}(z:XR x)(H:∀y:XT,y.size<x.size→BouC 38 names ids y)(b1:Option Nat)(e1:Nat)(p1:List Value)(n1 c1:Nat)(b2:Option Nat)(e2:Nat)(p2:List Value)(n2 c2:Nat)(hM:x.size≤1000000):ECall Tryz.prog 38 [gB z.T false,VBk b1 e1 p1 names n1,VIk b2 e2 p2 ids n2] [z.v,slv b1 p1.length names.length c1,slv b2 p2.length ids.length c2] (XR (bindX names ids x)) (fun u=>u.v) (fun u=>[gB u.T true]):=by
 refine⟨by kernel_rfl,fun B w hD hL0=>?_⟩;obtain⟨h1,h2,h3,h4,h5,h6⟩:=z.inv;refine cB3 61 Tryz.func38 hL0 ?_;refine A2 ?_;refine Bo [_,_,_,_,_,_,_] 7 (fun g=>[_,_,_,⟨some g,30,_,7,true⟩]) (fun g0=>?_);refine r_alloc [_,_,_,_,_,_,_] 7 (fun g=>[_,_,_,_,⟨some g,30,_,7,true⟩]) rfl rfl z30 rfl rfl (fun _=>rfl) (fun g1=>?_);refine A9 ?_;refine El (ι:={i:Nat // i≤names.length∧BndI names ids x.name i}) (fun⟨i,hi,hInv⟩=>([(1,slv b1 p1.length names.length c1),(2,slv b2 p2.length ids.length c2),(3,.pointer (some ⟨g0,0,none⟩)),(6,.pointer (some ⟨g1,0,none⟩)),(7,.int .i64 (i:Nat))],[gB z.T false,VBk b1 e1 p1 names n1,VIk b2 e2 p2 ids n2,XB g0 z,ZB g1],names.length-i)) ⟨0,Nat.zero_le _,BndI.zero names ids x.name⟩ ?_ (hL:=Weak.auto);rintro⟨i,hi,hInv⟩;(try dsimp only);refine A8 ?_;refine Rs 14 ?_ ?_<;>intro hb1
 ·have hlt:i<names.length:=(by have:=of_decide_eq_true hb1;omega);obtain⟨a,ha⟩:∃a,names[i]? =some a:=⟨names[i],List.getElem?_eq_getElem hlt⟩;refine A2 ?_;refine Kp 16 h1 ?_;refine A4 ?_;refine Cd ?_ ?_<;>intro hb2
  ·have hop:x.op=4:=by have hh:=hb2;simpa using hh
   refine A5 ?_;refine at_drawnI [] mixed (by kernel_rfl) (by kernel_rfl) ?_;refine A2 ?_;refine r_indexAddr 1 (p1.length+i*1) u36 ti9 rfl rfl rfl rfl rfl (by omega) (by omega) (pre_ne (SB_ne (by omega))) (by show _+Int.toNat _*1=_;omega) ?_;refine r_load (v:= .string (strU a)) 1 (p1.length+i*1) _ rfl rfl rfl rfl ti9 (pre_get (SB_get ha) rfl) rfl (by decide) rfl ?_;refine A2 ?_;refine r_know 26 (.string (strU x.name)) rfl (by rw[h2]) ?_;refine A1 ?_;refine r_know 27 (.bool (a==x.name)) rfl (congrArg Value.bool (strU_beq a x.name)) ?_;refine A1 ?_;refine Rs 28 ?_ ?_<;>intro hb3
   ·have hax:a=x.name:=by have hh:=hb3;simpa using hh
    refine A7 ?_;refine Cd ?_ ?_<;>intro hb4
    ·have hil:i<ids.length:=(by have:=of_decide_eq_true hb4;omega);obtain⟨id,hid⟩:∃id,ids[i]? =some id:=⟨ids[i],List.getElem?_eq_getElem hil⟩;have hob:objB names ids x.name=some id:=bnd_here (by rw[ha,hax]) hid hil hInv;have hIi:=hI id (List.mem_of_getElem? hid);refine A4 ?_;refine r_indexAddr 2 (p2.length+i*1) u57 ti3 rfl rfl rfl rfl rfl (by omega) (by omega) (pre_ne (inC_ne (by omega))) (by show _+Int.toNat _*1=_;omega) ?_;refine r_load (v:= .int .i64 id) 2 (p2.length+i*1) _ rfl rfl rfl rfl ti3 (pre_get (inC_get hid) rfl) rfl (by decide) rfl ?_;refine Pc (c_rational_FromInt id hIi.1 hIi.2) ?_;refine r_build [(0,_),(2,_)] rfl rfl rfl (bd30_0_2x) ?_;refine So 4 0 [_,_,_,_,⟨some g1,30,_,7,true⟩] [_,_,_,_,_,_,_] ?_;refine A8 ?_;refine at_end1 rfl (res_cell 4 rfl rfl ti30 (vs:=[_,_,_,_,_,_,_]) rfl rfl (Nat.le_of_ble_eq_true rfl) rfl) (fun w hL=>⟨(XR.num (id:Rat) 3).cast (bindX_obj hop hob).symm,(show Ending.returned (XR.num (id:Rat) 3).v=Ending.returned ((XR.num (id:Rat) 3).cast (bindX_obj hop hob).symm).v from congrArg Ending.returned (XR.cast_v _ _).1.symm),(congrArg (fun T=>LRel B [gB T true] w) (XR.cast_v _ _).2).mpr ((show Weak _ [gB [] true] from Weak.trans (B:=[]) (weak_picks [] trivial rfl rfl) (Weak.newG [])) _ _ hL)⟩)
    ·have hil:ids.length≤i:=(by have:=of_decide_eq_false hb4;omega);refine A5 ?_;refine Ar (((i+1:Nat):Int)) ?_;refine A3 ?_;exact Nl ⟨i+1,hlt,bnd_over (by rw[ha,hax]) hil hInv⟩ (hL:=Weak.auto)
   ·have hax:a≠x.name:=by have hh:=hb3;simpa using hh
    refine A13 ?_;refine Ar (((i+1:Nat):Int)) ?_;refine A3 ?_;exact Nl ⟨i+1,hlt,bnd_ne ha hax hInv⟩ (hL:=Weak.auto)
  ·have hop:x.op≠4:=by have hh:=hb2;simpa using hh
   have hno:x.op≠4∨objB names ids x.name=none:= .inl hop;refine A17 ?_;refine El (ι:=BndS names ids x) (fun⟨i,l,w,hi,hl⟩=>([(1,slv b1 p1.length names.length c1),(2,slv b2 p2.length ids.length c2),(3,.pointer (some ⟨g0,0,none⟩)),(6,.pointer (some ⟨g1,0,none⟩)),(8,slv w.b 0 l.length w.cap),(9,.int .i64 (i:Nat))],[gB z.T false,VBk b1 e1 p1 names n1,VIk b2 e2 p2 ids n2,XB g0 z,ZB g1,gB w.T true,⟨w.b,30,w.cs,w.n,true⟩],x.args.length-i)) ⟨0,[],XA.zero,Nat.zero_le _,by rw[List.take_zero,bindXs]⟩ ?_ (hL:=(Weak.trans (Weak.newG _) (Weak.nilB _ (by decide))));rintro⟨i,l,w,hi,hl⟩;(try dsimp only);refine A7 ?_;refine r_know 43 (.int .i64 (x.args.length:Nat)) rfl (by rw[h5]) ?_;refine A3 ?_;refine Cd ?_ ?_<;>intro hb4
   ·have hlt:i<x.args.length:=by have:=of_decide_eq_true hb4;omega
    obtain⟨y,hy⟩:∃y,x.args[i]? =some y:=⟨x.args[i],List.getElem?_eq_getElem hlt⟩;obtain⟨ga,oa,ca,u,hza,hma,hra,hTa,hna⟩:=z.arg hy;have hlen:=bnd_len hi hl;have hal:=XT.len_sizes x.args;have hsz:=XT.size_eq x;refine A4 ?_;refine at_regionM ?_;refine A4 ?_;refine r_indexAddrG (gg:=ga) (len:=z.n) (cap:=z.cap) (oa+i*7) u28 ti30 rfl rfl (congrArg (fun a=>some (Value.slice a z.n z.cap)) hza) rfl (by omega) (by omega) (by show oa+Int.toNat _*7=_;omega) ?_;refine r_loadT (v:=u.v) 0 (oa+i*7) u.cs rfl rfl rfl z.hT hma hna rfl ti30 hra rfl rfl rfl ?_;refine A2 ?_;refine Gm 0 [] [0,1,2] (fun(u1:XR (bindX names ids y))=>[_,_,_,_,_,_,_,gB u1.T true]) (by have h:=H y (XT.arg_lt hy) u b1 e1 p1 n1 c1 b2 e2 p2 n2 c2 (by have:=XT.sizes_get hy;have:=XT.size_eq x;omega);rw[hTa] at h;exact h) (fun u1=>?_);refine r_buildSlice [(0,_)] (fun g=>[_,_,_,_,_,_,_,_,⟨some g,30,_,7,true⟩]) rfl rfl rfl (bs28_1) rfl (fun _=>rfl) (fun g2=>?_);refine q_append (b:=⟨w.b,30,w.cs,w.n,true⟩) (len:=l.length) (cap:=w.cap) (n2:=1) 6 8 (fun ar=>[_,_,_,_,_,_,⟨some ar.g,30,w.cs++u1.cs,ar.n,true⟩,_,_]) u28 el30 rfl rfl rfl rfl rfl rfl rfl rfl rfl rfl rfl rfl w.hlen w.hcap w.hn rfl (fun v hv=>simpleT_one u1.cs_simple v hv) (by omega) (fun ar=>rfl) (fun ar=>?_);refine A6 ?_;refine Ar (((i+1:Nat):Int)) ?_;refine A3 ?_;exact Nl ⟨i+1,l++[bindX names ids y],w.add u1 ar,hlt,by rw[bindXs_take hy,hl]⟩ (ht:=⟨rfl,rfl,rfl,rfl,(look_val rfl (congrArg (fun n=>slv (some ar.g) 0 n ar.cap) (by rw[List.length_append];rfl))),rfl,trivial⟩) (hL:=(weak_addC w u1 ar))
   ·have hge:i=x.args.length:=by have:=of_decide_eq_false hb4;omega
    have hlen:=bnd_len hi hl;refine A9 ?_;refine So 3 6 [_,_,_,⟨some g0,30,_,7,true⟩,_,_,_] [_,_,_,_,_,_,_] ?_;refine A4 ?_;refine Ld 3 0 [_,_,_,_,_,_,_] ti30 ?_;refine So 4 0 [_,_,_,_,⟨some g1,30,_,7,true⟩,_,_] [_,_,_,_,_,_,_] ?_;refine A3 ?_;refine at_end1 rfl (res_cell 4 rfl rfl ti30 (vs:=[_,_,_,_,_,_,_]) rfl rfl (Nat.le_of_ble_eq_true rfl) rfl) (fun w2 hL=>by
 have e1:XT.mk x.op x.name x.num l=bindX names ids x:=(by rw[bindX_no hno,hl,hge,List.take_of_length_le (Nat.le_refl _)]);exact⟨(w.finG x.op x.name h3).cast e1,(show _=Ending.returned ((w.finG x.op x.name h3).cast e1).v from(show _=Ending.returned (w.finG x.op x.name h3).v from by show Ending.returned (.agg #[.int .i64 z.op,.string z.nm,_,_,_,_,_])=Ending.returned (.agg #[.int .i64 x.op,.string (strU x.name),_,_,_,_,_]);rw[h1,h2];rfl).trans (congrArg Ending.returned (XR.cast_v _ _).1.symm)),(congrArg (fun T=>LRel B [gB T true] w2) (XR.cast_v _ _).2).mpr ((Weak.trans (B:=[gB w.T true,⟨w.b,30,w.cs,w.n,true⟩]) (weak_pk [some 5,some 6]) (weak_fin w)) _ _ hL)⟩)
 ·have hge0:names.length≤i:=(by have:=of_decide_eq_false hb1;omega);have hno:x.op≠4∨objB names ids x.name=none:=bnd_end hge0 hInv;refine A24 ?_;refine El (ι:=BndS names ids x) (fun⟨i,l,w,hi,hl⟩=>([(1,slv b1 p1.length names.length c1),(2,slv b2 p2.length ids.length c2),(3,.pointer (some ⟨g0,0,none⟩)),(6,.pointer (some ⟨g1,0,none⟩)),(8,slv w.b 0 l.length w.cap),(9,.int .i64 (i:Nat))],[gB z.T false,VBk b1 e1 p1 names n1,VIk b2 e2 p2 ids n2,XB g0 z,ZB g1,gB w.T true,⟨w.b,30,w.cs,w.n,true⟩],x.args.length-i)) ⟨0,[],XA.zero,Nat.zero_le _,by rw[List.take_zero,bindXs]⟩ ?_ (hL:=(Weak.trans (Weak.newG _) (Weak.nilB _ (by decide))));rintro⟨i,l,w,hi,hl⟩;(try dsimp only);refine A7 ?_;refine r_know 43 (.int .i64 (x.args.length:Nat)) rfl (by rw[h5]) ?_;refine A3 ?_;refine Cd ?_ ?_<;>intro hb3
  ·have hlt:i<x.args.length:=by have:=of_decide_eq_true hb3;omega
   obtain⟨y,hy⟩:∃y,x.args[i]? =some y:=⟨x.args[i],List.getElem?_eq_getElem hlt⟩;obtain⟨ga,oa,ca,u,hza,hma,hra,hTa,hna⟩:=z.arg hy;have hlen:=bnd_len hi hl;have hal:=XT.len_sizes x.args;have hsz:=XT.size_eq x;refine A4 ?_;refine at_regionM ?_;refine A4 ?_;refine r_indexAddrG (gg:=ga) (len:=z.n) (cap:=z.cap) (oa+i*7) u28 ti30 rfl rfl (congrArg (fun a=>some (Value.slice a z.n z.cap)) hza) rfl (by omega) (by omega) (by show oa+Int.toNat _*7=_;omega) ?_;refine r_loadT (v:=u.v) 0 (oa+i*7) u.cs rfl rfl rfl z.hT hma hna rfl ti30 hra rfl rfl rfl ?_;refine A2 ?_;refine Gm 0 [] [0,1,2] (fun(u1:XR (bindX names ids y))=>[_,_,_,_,_,_,_,gB u1.T true]) (by have h:=H y (XT.arg_lt hy) u b1 e1 p1 n1 c1 b2 e2 p2 n2 c2 (by have:=XT.sizes_get hy;have:=XT.size_eq x;omega);rw[hTa] at h;exact h) (fun u1=>?_);refine r_buildSlice [(0,_)] (fun g=>[_,_,_,_,_,_,_,_,⟨some g,30,_,7,true⟩]) rfl rfl rfl (bs28_1) rfl (fun _=>rfl) (fun g2=>?_);refine q_append (b:=⟨w.b,30,w.cs,w.n,true⟩) (len:=l.length) (cap:=w.cap) (n2:=1) 6 8 (fun ar=>[_,_,_,_,_,_,⟨some ar.g,30,w.cs++u1.cs,ar.n,true⟩,_,_]) u28 el30 rfl rfl rfl rfl rfl rfl rfl rfl rfl rfl rfl rfl w.hlen w.hcap w.hn rfl (fun v hv=>simpleT_one u1.cs_simple v hv) (by omega) (fun ar=>rfl) (fun ar=>?_);refine A6 ?_;refine Ar (((i+1:Nat):Int)) ?_;refine A3 ?_;exact Nl ⟨i+1,l++[bindX names ids y],w.add u1 ar,hlt,by rw[bindXs_take hy,hl]⟩ (ht:=⟨rfl,rfl,rfl,rfl,(look_val rfl (congrArg (fun n=>slv (some ar.g) 0 n ar.cap) (by rw[List.length_append];rfl))),rfl,trivial⟩) (hL:=(weak_addC w u1 ar))
  ·have hge:i=x.args.length:=by have:=of_decide_eq_false hb3;omega
   have hlen:=bnd_len hi hl;refine A9 ?_;refine So 3 6 [_,_,_,⟨some g0,30,_,7,true⟩,_,_,_] [_,_,_,_,_,_,_] ?_;refine A4 ?_;refine Ld 3 0 [_,_,_,_,_,_,_] ti30 ?_;refine So 4 0 [_,_,_,_,⟨some g1,30,_,7,true⟩,_,_] [_,_,_,_,_,_,_] ?_;refine A3 ?_;refine at_end1 rfl (res_cell 4 rfl rfl ti30 (vs:=[_,_,_,_,_,_,_]) rfl rfl (Nat.le_of_ble_eq_true rfl) rfl) (fun w2 hL=>by
 have e1:XT.mk x.op x.name x.num l=bindX names ids x:=(by rw[bindX_no hno,hl,hge,List.take_of_length_le (Nat.le_refl _)]);exact⟨(w.finG x.op x.name h3).cast e1,(show _=Ending.returned ((w.finG x.op x.name h3).cast e1).v from(show _=Ending.returned (w.finG x.op x.name h3).v from by show Ending.returned (.agg #[.int .i64 z.op,.string z.nm,_,_,_,_,_])=Ending.returned (.agg #[.int .i64 x.op,.string (strU x.name),_,_,_,_,_]);rw[h1,h2];rfl).trans (congrArg Ending.returned (XR.cast_v _ _).1.symm)),(congrArg (fun T=>LRel B [gB T true] w2) (XR.cast_v _ _).2).mpr ((Weak.trans (B:=[gB w.T true,⟨w.b,30,w.cs,w.n,true⟩]) (weak_pk [some 5,some 6]) (weak_fin w)) _ _ hL)⟩)
section
variable{names:List Bs8}{ids:List Int}{x:XT}
theorem c_bound(hN:names.length≤1000000)(hE:names.length=ids.length)(hI:∀id∈ids,-9223372036854775808≤id∧id≤9223372036854775807)(x:XT):BouC 71 names ids x:=
 byS (p:=BouC 71 names ids) (fun x H z b1 e1 p1 n1 c1 b2 e2 p2 n2 c2 hM=>c_bound_step names ids hN hE hI z H b1 e1 p1 n1 c1 b2 e2 p2 n2 c2 hM) x
theorem c_law_bind(hN:names.length≤1000000)(hL:ids.length≤1000000)(hI:∀id∈ids,-9223372036854775808≤id∧id≤9223372036854775807)(x:XT):BouC 38 names ids x:=
 byS (p:=BouC 38 names ids) (fun x H z b1 e1 p1 n1 c1 b2 e2 p2 n2 c2 hM=>c_law_bind_step names ids hN hL hI z H b1 e1 p1 n1 c1 b2 e2 p2 n2 c2 hM) x
theorem bdX_no(h:bdE names ids x≠0):XT.node 0 []=bdX names ids x:=by unfold bdX;rw[if_neg h]
theorem bdX_yes(h:bdE names ids x=0):bindX names ids x=bdX names ids x:=by unfold bdX;rw[if_pos h]
theorem bdE_chk(h:chkE x≠0):bdE names ids x=chkE x:=if_pos h
theorem bdE_len(h:chkE x=0)(hl:names.length≠ids.length):bdE names ids x=5:=by unfold bdE;rw[if_neg (by rw[h];simp),if_pos hl]
theorem bdE_bad(h:chkE x=0)(hl:names.length=ids.length)(hb:badNs ids=true):bdE names ids x=27:=by unfold bdE;rw[if_neg (by rw[h];simp),if_neg (fun c=>c hl),if_pos hb]
theorem bdE_ok(h:chkE x=0)(hl:names.length=ids.length)(hb:badNs ids=false):bdE names ids x=0:=by unfold bdE;rw[if_neg (by rw[h];simp),if_neg (fun c=>c hl),if_neg (by rw[hb];simp)]
theorem bad_here{i:Nat}{id:Int}(h:ids[i]? =some id)(hb:badN id=true):badNs ids=true:=List.any_eq_true.2 ⟨id,List.mem_of_getElem? h,hb⟩
theorem bad_step{i:Nat}{id:Int}(h:ids[i]? =some id)(hb:badN id=false)(hI:badNs (ids.take i)=false):badNs (ids.take (i+1))=false:=by
 rw[List.take_add_one,h]
 unfold badNs at*
 rw[List.any_append,hI]
 show(badN id||false)=false
 rw[hb];rfl
theorem bad_N{id:Int}(h1:¬id<1)(h2:¬1073741824<id):badN id=false:=by unfold badN;rw[decide_eq_false h1,decide_eq_false h2];rfl
theorem bad_N1{id:Int}(h1:id<1):badN id=true:=by unfold badN;rw[decide_eq_true h1];rfl
theorem bad_N2{id:Int}(h2:1073741824<id):badN id=true:=by unfold badN;rw[decide_eq_true h2,Bool.or_true]
end
theorem c_Bind(names:List Bs8)(ids:List Int)(hN:names.length≤1000000)(hIl:ids.length≤1000000)(hI:∀id∈ids,-9223372036854775808≤id∧id≤9223372036854775807){x:XT}(z:XR x)(hf:x.fit=true)(b1:Option Nat)(e1:Nat)(p1:List Value)(n1 c1:Nat)(b2:Option Nat)(e2:Nat)(p2:List Value)(n2 c2:Nat)(hM:x.size≤1000000):ECall Tryz.prog 37 [gB z.T false,VBk b1 e1 p1 names n1,VIk b2 e2 p2 ids n2] [z.v,slv b1 p1.length names.length c1,slv b2 p2.length ids.length c2] (XR (bdX names ids x)) (fun u=> .tuple #[u.v,.int .i64 (bdE names ids x:Nat)]) (fun u=>[gB u.T true]):=by
 refine⟨by kernel_rfl,fun B w hD hL0=>?_⟩;refine cB3 41 Tryz.func37 hL0 ?_;refine A2 ?_;refine Bo [_,_,_,_,_,_,_] 7 (fun g=>[_,_,_,⟨some g,30,_,7,true⟩]) (fun g0=>?_);refine r_alloc [_,_,_,_,_,_,_] 7 (fun g=>[_,_,_,_,⟨some g,30,_,7,true⟩]) rfl rfl z30 rfl rfl (fun _=>rfl) (fun g1=>?_);refine A6 ?_;refine Ld 3 0 [_,_,_,_,_,_,_] ti30 ?_;refine Kr 11 (z.v) ?_;refine r_scall0 [z.v] [0] rfl rfl rfl (ECall.toS (c_CheckExpr z hf)) ⟨⟨_,rfl,Blk.le_refl _⟩,trivial⟩ rfl ?_;refine A9 ?_;refine Cd ?_ ?_<;>intro hb0
 ·have hc:chkE x≠0:=by have hh:=hb0;simpa using hh
  refine A2 ?_;refine r_build [] rfl rfl rfl (bd30_0) ?_;refine A1 ?_;refine So 4 0 [_,_,_,_,⟨some g1,30,_,7,true⟩] [_,_,_,_,_,_,_] ?_;refine A5 ?_;refine at_end2 rfl (res_cell 4 rfl rfl ti30 (vs:=[_,_,_,_,_,_,_]) rfl rfl (Nat.le_of_ble_eq_true rfl) rfl) (res_tmp rfl) (fun w hL=>by
 have hE:=bdE_chk (names:=names) (ids:=ids) hc;have h0:bdE names ids x≠0:=(by rw[hE];exact hc);exact⟨XR.empty.cast (bdX_no h0),(show Ending.returned (.tuple #[XR.empty.v,.int .i64 (chkE x:Nat)])=Ending.returned (.tuple #[(XR.empty.cast (bdX_no h0)).v,.int .i64 (bdE names ids x:Nat)]) from by rw[(XR.cast_v _ _).1,hE]),(congrArg (fun T=>LRel B [gB T true] w) (XR.cast_v _ _).2).mpr ((show Weak _ [gB [] true] from Weak.trans (B:=[]) (weak_picks [] trivial rfl rfl) (Weak.newG [])) _ _ hL)⟩)
 ·have hc:chkE x=0:=by have hh:=hb0;simpa using hh
  refine A12 ?_;refine Cd ?_ ?_<;>intro hb1
  ·have hle:names.length≠ids.length:=by have hh:=hb1;simp at hh;omega
   refine A2 ?_;refine r_build [] rfl rfl rfl (bd30_0) ?_;refine So 4 0 [_,_,_,_,⟨some g1,30,_,7,true⟩] [_,_,_,_,_,_,_] ?_;refine A5 ?_;refine at_end2 rfl (res_cell 4 rfl rfl ti30 (vs:=[_,_,_,_,_,_,_]) rfl rfl (Nat.le_of_ble_eq_true rfl) rfl) (res_tmp rfl) (fun w hL=>by
 have hE:=bdE_len hc hle;have h0:bdE names ids x≠0:=(by rw[hE];decide);exact⟨XR.empty.cast (bdX_no h0),(show Ending.returned (.tuple #[XR.empty.v,.int .i64 (5:Nat)])=Ending.returned (.tuple #[(XR.empty.cast (bdX_no h0)).v,.int .i64 (bdE names ids x:Nat)]) from by rw[(XR.cast_v _ _).1,hE]),(congrArg (fun T=>LRel B [gB T true] w) (XR.cast_v _ _).2).mpr ((show Weak _ [gB [] true] from Weak.trans (B:=[]) (weak_picks [] trivial rfl rfl) (Weak.newG [])) _ _ hL)⟩)
  ·have hle:names.length=ids.length:=by have hh:=hb1;simp at hh;omega
   refine A11 ?_;refine El (ι:={i:Nat // i≤ids.length∧badNs (ids.take i)=false}) (fun⟨i,hi,hIv⟩=>([(1,slv b1 p1.length names.length c1),(2,slv b2 p2.length ids.length c2),(3,.pointer (some ⟨g0,0,none⟩)),(6,.pointer (some ⟨g1,0,none⟩)),(23,slv b2 p2.length ids.length c2),(24,.int .i64 (ids.length:Nat)),(25,.int .i64 (i:Nat))],[gB z.T false,VBk b1 e1 p1 names n1,VIk b2 e2 p2 ids n2,XB g0 z,ZB g1],ids.length-i)) ⟨0,Nat.zero_le _,rfl⟩ ?_ (hL:=Weak.auto);rintro⟨i,hi,hIv⟩;(try dsimp only);refine A6 ?_;refine Cd ?_ ?_<;>intro hb3
   ·have hlt:i<ids.length:=(by have:=of_decide_eq_true hb3;omega);obtain⟨id,hid⟩:∃id,ids[i]? =some id:=⟨ids[i],List.getElem?_eq_getElem hlt⟩;refine A6 ?_;refine r_indexAddr 2 (p2.length+i*1) u57 ti3 rfl rfl rfl rfl rfl (by omega) (by omega) (pre_ne (inC_ne (by omega))) (by show _+Int.toNat _*1=_;omega) ?_;refine r_load (v:= .int .i64 id) 2 (p2.length+i*1) _ rfl rfl rfl rfl ti3 (pre_get (inC_get hid) rfl) rfl (by decide) rfl ?_;refine A8 ?_;refine Rs 31 ?_ ?_<;>intro hb4
    ·have k1:id<1:=of_decide_eq_true hb4;refine A8 ?_;refine r_build [] rfl rfl rfl (bd30_0) ?_;refine So 4 0 [_,_,_,_,⟨some g1,30,_,7,true⟩] [_,_,_,_,_,_,_] ?_;refine A9 ?_;refine at_end2 rfl (res_cell 4 rfl rfl ti30 (vs:=[_,_,_,_,_,_,_]) rfl rfl (Nat.le_of_ble_eq_true rfl) rfl) (res_tmp rfl) (fun w hL=>by
 have hE:=bdE_bad hc hle (bad_here hid (bad_N1 k1));have h0:bdE names ids x≠0:=(by rw[hE];decide);exact⟨XR.empty.cast (bdX_no h0),(show Ending.returned (.tuple #[XR.empty.v,.int .i64 (27:Nat)])=Ending.returned (.tuple #[(XR.empty.cast (bdX_no h0)).v,.int .i64 (bdE names ids x:Nat)]) from by rw[(XR.cast_v _ _).1,hE]),(congrArg (fun T=>LRel B [gB T true] w) (XR.cast_v _ _).2).mpr ((show Weak _ [gB [] true] from Weak.trans (B:=[]) (weak_picks [] trivial rfl rfl) (Weak.newG [])) _ _ hL)⟩)
    ·have k1:¬id<1:=of_decide_eq_false hb4;refine A5 ?_;refine Cd ?_ ?_<;>intro hb5
     ·have k2:1073741824<id:=of_decide_eq_true hb5;refine A2 ?_;refine r_build [] rfl rfl rfl (bd30_0) ?_;refine So 4 0 [_,_,_,_,⟨some g1,30,_,7,true⟩] [_,_,_,_,_,_,_] ?_;refine A9 ?_;refine at_end2 rfl (res_cell 4 rfl rfl ti30 (vs:=[_,_,_,_,_,_,_]) rfl rfl (Nat.le_of_ble_eq_true rfl) rfl) (res_tmp rfl) (fun w hL=>by
 have hE:=bdE_bad hc hle (bad_here hid (bad_N2 k2));have h0:bdE names ids x≠0:=(by rw[hE];decide);exact⟨XR.empty.cast (bdX_no h0),(show Ending.returned (.tuple #[XR.empty.v,.int .i64 (27:Nat)])=Ending.returned (.tuple #[(XR.empty.cast (bdX_no h0)).v,.int .i64 (bdE names ids x:Nat)]) from by rw[(XR.cast_v _ _).1,hE]),(congrArg (fun T=>LRel B [gB T true] w) (XR.cast_v _ _).2).mpr ((show Weak _ [gB [] true] from Weak.trans (B:=[]) (weak_picks [] trivial rfl rfl) (Weak.newG [])) _ _ hL)⟩)
     ·have k2:¬1073741824<id:=of_decide_eq_false hb5;refine A4 ?_;refine Ar (((i+1:Nat):Int)) ?_;refine A3 ?_;exact Nl ⟨i+1,hlt,bad_step hid (bad_N k1 k2) hIv⟩ (hL:=Weak.auto)
   ·have hge:ids.length≤i:=(by have:=of_decide_eq_false hb3;omega);have hbd:badNs ids=false:=by rw[List.take_of_length_le hge] at hIv;exact hIv
    refine A6 ?_;refine at_regionM ?_;refine Ld 3 0 [_,_,_,_,_,_,_] ti30 ?_;refine Kr 37 (z.v) ?_;refine A2 ?_;refine Gm 0 [] [0,1,2] (fun(u1:XR (bindX names ids x))=>[_,_,_,_,_,gB u1.T true]) (c_bound hN hle hI x z b1 e1 p1 n1 c1 b2 e2 p2 n2 c2 hM) (fun u1=>?_);refine So 4 0 [_,_,_,_,⟨some g1,30,_,7,true⟩,_] [_,_,_,_,_,_,_] ?_;refine A4 ?_;refine at_end2 rfl (res_cell 4 rfl rfl ti30 (vs:=[_,_,_,_,_,_,_]) rfl rfl (Nat.le_of_ble_eq_true rfl) rfl) (res_tmp rfl) (fun w hL=>by
 have hE:=bdE_ok hc hle hbd;exact⟨u1.cast (bdX_yes hE),(show Ending.returned (.tuple #[u1.v,.int .i64 (0:Nat)])=Ending.returned (.tuple #[(u1.cast (bdX_yes hE)).v,.int .i64 (bdE names ids x:Nat)]) from by rw[(XR.cast_v _ _).1,hE]),(congrArg (fun T=>LRel B [gB T true] w) (XR.cast_v _ _).2).mpr ((show Weak _ [gB u1.T true] from weak_pk [some 5]) _ _ hL)⟩)
theorem c_rational_FromInts(m n:Int)(hm: -9223372036854775808≤m∧m≤9223372036854775807)(hn: -9223372036854775808≤n∧n≤9223372036854775807):PCall Tryz.prog 134 #[.int .i64 m,.int .i64 n] (.tuple #[Q (Rat.divInt m n),.int .i64 (if n=0 then 6 else 0)]):=by
 refine⟨by kernel_rfl,fun w=>?_⟩;refine cB2 13 Tryz.func134 (LRel.nil w) ?_;refine A2 ?_;refine r_alloc [_,_,_,_] 4 (fun g=>[⟨some g,27,_,4,true⟩]) rfl rfl z27 rfl rfl (fun _=>rfl) (fun g0=>?_);refine A6 ?_;refine Pc (c_integer_FromInt m hm.1 hm.2) ?_;refine A1 ?_;refine Pc (c_integer_FromInt n hn.1 hn.2) ?_;refine Pc (c_rational_Make m n (szI64 hm.1 hm.2) (szI64 hn.1 hn.2)) ?_;refine A2 ?_;refine So 0 0 [⟨some g0,27,_,4,true⟩] [_,_,_,_] ?_;refine A4 ?_;refine at_end2 rfl (res_cell 0 rfl rfl ti27 (vs:=[_,_,_,_]) rfl rfl (Nat.le_of_ble_eq_true rfl) rfl) (res_tmp rfl) (fun w hL=>⟨?_,hL.below⟩);exact rfl
theorem c_law_fraction(n:Nat)(hn:n<256):PCall Tryz.prog 101 #[.int .u8 (n:Nat)] (Q (frQ n)):=by
 refine⟨by kernel_rfl,fun w=>?_⟩;refine cB1 18 Tryz.func101 (LRel.nil w) ?_;refine A2 ?_;refine r_alloc [_,_,_,_] 4 (fun g=>[⟨some g,27,_,4,true⟩]) rfl rfl z27 rfl rfl (fun _=>rfl) (fun g0=>?_);refine A5 ?_;refine r_div (r:=((n%32:Nat):Int)) rfl rfl rfl rfl (by omega) (congrArg some (rem_n _ _ rfl rfl)) ?_;refine r_conv (r:=((n%32:Nat):Int)) u5 u3 rfl rfl rfl (wi (by omega) (by omega) (by omega)) ?_;refine Ar ((((n%32:Nat):Int)-16)) ?_;refine A1 ?_;refine r_div (r:=((n/32:Nat):Int)) rfl rfl rfl rfl (by omega) (congrArg some (quo8 n 32 rfl rfl (by omega))) ?_;refine r_conv (r:=((n/32:Nat):Int)) u5 u3 rfl rfl rfl (wi (by omega) (by omega) (by omega)) ?_;refine Ar (((1+n/32:Nat):Int)) ?_;refine Pc (c_rational_FromInts (((n%32:Nat):Int)-16) ((1+n/32:Nat):Int) (by omega) (by omega)) ?_;refine A3 ?_;refine r_alloc [_,_,_,_] 4 (fun g=>[_,⟨some g,27,_,4,true⟩]) rfl rfl z27 rfl rfl (fun _=>rfl) (fun g1=>?_);refine So 1 0 [_,⟨some g1,27,_,4,true⟩] [_,_,_,_] ?_;refine A5 ?_;refine Ld 1 0 [_,_,_,_] ti27 ?_;refine So 0 0 [⟨some g0,27,_,4,true⟩,_] [_,_,_,_] ?_;refine A3 ?_;refine at_end1 rfl (res_cell 0 rfl rfl ti27 (vs:=[_,_,_,_]) rfl rfl (Nat.le_of_ble_eq_true rfl) rfl) (fun w hL=>⟨?_,hL.below⟩);exact rfl
theorem c_law_limited(b:Option Nat)(e:Nat)(pre:List Value)(l:List Stp)(n cap:Nat)(hw:∀s∈l,s.2.2.length≤281474976710656):ECall Tryz.prog 34 [⟨b,e,pre++stC l,n,false⟩] [slv b pre.length l.length cap] {q:Option Nat×Nat×Nat // (limS l).length≤q.2.2∧q.2.2*3≤q.2.1} (fun q=>slv q.1.1 0 (limS l).length q.1.2.2) (fun q=>[⟨q.1.1,92,stC (limS l),q.1.2.1,true⟩]):=by
 refine⟨by kernel_rfl,fun B w hD hL0=>?_⟩;refine cB1 33 Tryz.func34 hL0 ?_;refine A17 ?_;refine El (ι:={q:Nat×Option Nat×Nat×Nat // q.1≤l.length∧q.1≤40∧q.1≤q.2.2.2∧q.2.2.2*3≤q.2.2.1}) (fun⟨⟨i,ob,oN,oc⟩,hi,hi40,h1o,h2o⟩=>([(0,slv b pre.length l.length cap),(3,slv ob 0 i oc),(4,.int .i64 (i:Nat))],[⟨b,e,pre++stC l,n,false⟩,⟨ob,92,stC (limC (l.take i)),oN,true⟩],l.length-i)) ⟨(0,none,0,0),Nat.zero_le _,Nat.zero_le _,Nat.le_refl _,Nat.le_refl _⟩ ?_ (hL:=(Weak.nilB _ (by decide)));rintro⟨⟨i,ob,oN,oc⟩,hi,hi40,h1o,h2o⟩;(try dsimp only);dsimp only at hi hi40 h1o h2o;refine A8 ?_;refine Rs 10 ?_ ?_<;>intro hb1
 ·have hlt:i<l.length:=(by have:=of_decide_eq_true hb1;omega);refine A5 ?_;refine Cd ?_ ?_<;>intro hb2
  ·have h40:i<40:=(by have:=of_decide_eq_true hb2;omega);obtain⟨s,hs⟩:∃s,l[i]? =some s:=⟨l[i],List.getElem?_eq_getElem hlt⟩;have hsl:=hw s (List.mem_of_getElem? hs);refine A8 ?_;refine r_indexAddr 0 (pre.length+i*3) u50 ti92 rfl rfl rfl rfl rfl (by omega) (by omega) (pre_ne (stC_ne (by omega))) (by show _+Int.toNat _*3=_;omega) ?_;refine r_load (v:= .agg #[.int .u8 (s.1:Nat),.int .u8 (s.2.1:Nat),.string (strU s.2.2)]) 0 (pre.length+i*3) _ rfl rfl rfl rfl ti92 (pre_get (stC_get hs) rfl) rfl (by decide) rfl ?_;refine r_alloc [_,_,_] 3 (fun g=>[_,_,⟨some g,92,_,3,true⟩]) rfl rfl z92 rfl rfl (fun _=>rfl) (fun g0=>?_);refine So 2 0 [_,_,⟨some g0,92,_,3,true⟩] [_,_,_] ?_;refine A9 ?_;refine r_know 24 (.int .i64 (s.2.2.length:Nat)) rfl (by rw[strU_size]) ?_;refine r_minI rfl rfl rfl rfl ?_;refine r_know 25 (.int .i64 (min s.2.2.length 45:Nat)) rfl (congrArg (Value.int .i64) (by omega)) ?_;refine r_sliceTo (s:=s.2.2) (j:=min s.2.2.length 45) u9 rfl rfl rfl rfl (by omega) rfl ?_;refine A1 ?_;refine So 2 2 [_,_,⟨some g0,92,_,3,true⟩] [_,_,_] ?_;refine A4 ?_;refine Ld 2 0 [_,_,_] ti92 ?_;refine r_buildSlice [(0,_)] (fun g=>[_,_,_,⟨some g,92,_,3,true⟩]) rfl rfl rfl (bs50_1) rfl (fun _=>rfl) (fun g1=>?_);refine q_append (b:=⟨ob,92,stC (limC (l.take i)),oN,true⟩) (len:=i) (cap:=oc) (n2:=1) 1 3 (fun ar=>[_,⟨some ar.g,92,stC (limC (l.take i))++stp3 (cutS s),ar.n,true⟩,_,_]) u50 el92 rfl rfl rfl rfl rfl rfl rfl rfl rfl rfl rfl rfl (by rw[stC_length,limC_length,List.length_take];omega) h1o h2o rfl (fun v hv=>simpleT_one (show(stp3 (cutS s)).all Value.simpleT=true from rfl) v hv) (by omega) (fun ar=>rfl) (fun ar=>?_);refine A6 ?_;refine Ar (((i+1:Nat):Int)) ?_;refine A3 ?_;exact Nl ⟨(i+1,some ar.g,ar.n,ar.cap),hlt,h40,ar.h,ar.hn⟩ (hL:=(weak_picks [some 0,some 1] ⟨⟨_,rfl,Blk.le_refl _⟩,⟨_,rfl,le_same (congrArg (fun c=>(⟨some ar.g,92,c,ar.n,true⟩:Blk)) (lim_step hs))⟩,trivial⟩ rfl rfl))
  ·have hge:40≤i:=(by have:=of_decide_eq_false hb2;omega);have hE:l.take i=l.take 40:=by rw[show i=40 by omega]
   refine A12 ?_;refine at_end1 rfl (res_tmp rfl) (fun w hL=>by
 have e1:limS l=limC (l.take i):=(by unfold limS;rw[hE]);have e2:(limS l).length=i:=(by rw[e1,limC_length,List.length_take];omega);exact⟨⟨(ob,oN,oc),by rw[e2];exact h1o,h2o⟩,congrArg (fun k=>Ending.returned (slv ob 0 k oc)) e2.symm,(show LRel _ [⟨ob,92,stC (limS l),oN,true⟩] _ from by rw[e1];exact hL.pk [some 1])⟩)
 ·have hge:l.length≤i:=(by have:=of_decide_eq_false hb1;omega);have hE:l.take i=l.take 40:=by rw[List.take_of_length_le hge,List.take_of_length_le (by omega)]
  refine A18 ?_;refine at_end1 rfl (res_tmp rfl) (fun w hL=>by
 have e1:limS l=limC (l.take i):=(by unfold limS;rw[hE]);have e2:(limS l).length=i:=(by rw[e1,limC_length,List.length_take];omega);exact⟨⟨(ob,oN,oc),by rw[e2];exact h1o,h2o⟩,congrArg (fun k=>Ending.returned (slv ob 0 k oc)) e2.symm,(show LRel _ [⟨ob,92,stC (limS l),oN,true⟩] _ from by rw[e1];exact hL.pk [some 1])⟩)
theorem c_law_forms:SCall Tryz.prog 86 [] [] Nat (fun g=>slv (some g) 0 30 30) (fun g=>[⟨some g,94,frmC frmT,120,true⟩]):=by
 refine⟨by kernel_rfl,fun w hL0=>?_⟩;refine cB0 32 Tryz.func86 hL0 ?_;refine A7 ?_;refine r_build [(0,_),(1,_),(2,_),(3,_)] rfl rfl rfl (bd94_4) ?_;refine r_build [(0,_),(1,_),(2,_),(3,_)] rfl rfl rfl (bd94_4) ?_;refine r_build [(0,_),(1,_),(2,_),(3,_)] rfl rfl rfl (bd94_4) ?_;refine r_build [(0,_),(1,_),(2,_),(3,_)] rfl rfl rfl (bd94_4) ?_;refine r_build [(0,_),(1,_),(2,_),(3,_)] rfl rfl rfl (bd94_4) ?_;refine r_build [(0,_),(1,_),(2,_),(3,_)] rfl rfl rfl (bd94_4) ?_;refine r_build [(0,_),(1,_),(2,_),(3,_)] rfl rfl rfl (bd94_4) ?_;refine r_build [(0,_),(1,_),(2,_),(3,_)] rfl rfl rfl (bd94_4) ?_;refine r_build [(0,_),(1,_),(2,_),(3,_)] rfl rfl rfl (bd94_4) ?_;refine r_build [(0,_),(1,_),(2,_),(3,_)] rfl rfl rfl (bd94_4) ?_;refine r_build [(0,_),(1,_),(2,_),(3,_)] rfl rfl rfl (bd94_4) ?_;refine r_build [(0,_),(1,_),(2,_),(3,_)] rfl rfl rfl (bd94_4) ?_;refine r_build [(0,_),(1,_),(2,_),(3,_)] rfl rfl rfl (bd94_4) ?_;refine r_build [(0,_),(1,_),(2,_),(3,_)] rfl rfl rfl (bd94_4) ?_;refine r_build [(0,_),(1,_),(2,_),(3,_)] rfl rfl rfl (bd94_4) ?_;refine r_build [(0,_),(1,_),(2,_),(3,_)] rfl rfl rfl (bd94_4) ?_;refine r_build [(0,_),(1,_),(2,_),(3,_)] rfl rfl rfl (bd94_4) ?_;refine r_build [(0,_),(1,_),(2,_),(3,_)] rfl rfl rfl (bd94_4) ?_;refine r_build [(0,_),(1,_),(2,_),(3,_)] rfl rfl rfl (bd94_4) ?_;refine r_build [(0,_),(1,_),(2,_),(3,_)] rfl rfl rfl (bd94_4) ?_;refine r_build [(0,_),(1,_),(2,_),(3,_)] rfl rfl rfl (bd94_4) ?_;refine r_build [(0,_),(1,_),(2,_),(3,_)] rfl rfl rfl (bd94_4) ?_;refine r_build [(0,_),(1,_),(2,_),(3,_)] rfl rfl rfl (bd94_4) ?_;refine r_build [(0,_),(1,_),(2,_),(3,_)] rfl rfl rfl (bd94_4) ?_;refine r_build [(0,_),(1,_),(2,_),(3,_)] rfl rfl rfl (bd94_4) ?_;refine r_build [(0,_),(1,_),(2,_),(3,_)] rfl rfl rfl (bd94_4) ?_;refine r_build [(0,_),(1,_),(2,_),(3,_)] rfl rfl rfl (bd94_4) ?_;refine r_build [(0,_),(1,_),(2,_),(3,_)] rfl rfl rfl (bd94_4) ?_;refine r_build [(0,_),(1,_),(2,_),(3,_)] rfl rfl rfl (bd94_4) ?_;refine r_build [(0,_),(1,_),(2,_),(3,_)] rfl rfl rfl (bd94_4) ?_;refine r_buildSlice [(0,_),(1,_),(2,_),(3,_),(4,_),(5,_),(6,_),(7,_),(8,_),(9,_),(10,_),(11,_),(12,_),(13,_),(14,_),(15,_),(16,_),(17,_),(18,_),(19,_),(20,_),(21,_),(22,_),(23,_),(24,_),(25,_),(26,_),(27,_),(28,_),(29,_)] (fun g=>[⟨some g,94,_,120,true⟩]) rfl rfl rfl (bs115_30) rfl (fun _=>rfl) (fun g0=>?_);refine A4 ?_;refine at_end1 rfl (res_tmp rfl) (fun w hL=>⟨g0,rfl,hL⟩)
theorem c_law_reserved(l:Bs8):PCall Tryz.prog 46 #[.string (strU l)] (.bool (mresL.contains l)):=by
 refine⟨by kernel_rfl,fun w=>?_⟩;refine cB1 33 Tryz.func46 (LRel.nil w) ?_;refine A11 ?_;refine Rs 7 ?_ ?_<;>intro hb0
 ·have k1:l=[118,97,108,117,101]:=by have hh:=hb0;rw[show(l=[118,97,108,117,101])=(((l==[118,97,108,117,101])=true)) from by simp,←strU_beq];exact hh
  refine A21 ?_;refine E1 fun w hL=>⟨?_,hL.below⟩;exact eB (mres_four (.inl k1)).symm
 ·have k1:l≠[118,97,108,117,101]:=by have hh:=hb0;rw[show(l≠[118,97,108,117,101])=(((l==[118,97,108,117,101])=false)) from by simp,←strU_beq];exact hh
  refine A4 ?_;refine Rs 11 ?_ ?_<;>intro hb1
  ·have k2:l=[111,98,106,101,99,116,115]:=by have hh:=hb1;rw[show(l=[111,98,106,101,99,116,115])=(((l==[111,98,106,101,99,116,115])=true)) from by simp,←strU_beq];exact hh
   refine A17 ?_;refine E1 fun w hL=>⟨?_,hL.below⟩;exact eB (mres_four (.inr (.inl k2))).symm
  ·have k2:l≠[111,98,106,101,99,116,115]:=by have hh:=hb1;rw[show(l≠[111,98,106,101,99,116,115])=(((l==[111,98,106,101,99,116,115])=false)) from by simp,←strU_beq];exact hh
   refine A4 ?_;refine Rs 15 ?_ ?_<;>intro hb2
   ·have k3:l=[112,97,105,114,115]:=by have hh:=hb2;rw[show(l=[112,97,105,114,115])=(((l==[112,97,105,114,115])=true)) from by simp,←strU_beq];exact hh
    refine A13 ?_;refine E1 fun w hL=>⟨?_,hL.below⟩;exact eB (mres_four (.inr (.inr (.inl k3)))).symm
   ·have k3:l≠[112,97,105,114,115]:=by have hh:=hb2;rw[show(l≠[112,97,105,114,115])=(((l==[112,97,105,114,115])=false)) from by simp,←strU_beq];exact hh
    refine A5 ?_;refine Cd ?_ ?_<;>intro hb3
    ·have k4:l=[119,104,101,114,101]:=by have hh:=hb3;rw[show(l=[119,104,101,114,101])=(((l==[119,104,101,114,101])=true)) from by simp,←strU_beq];exact hh
     refine A7 ?_;refine E1 fun w hL=>⟨?_,hL.below⟩;exact eB (mres_four (.inr (.inr (.inr k4)))).symm
    ·have k4:l≠[119,104,101,114,101]:=by have hh:=hb3;rw[show(l≠[119,104,101,114,101])=(((l==[119,104,101,114,101])=false)) from by simp,←strU_beq];exact hh
     refine A4 ?_;refine r_scall [] [] rfl rfl rfl c_law_forms trivial rfl (.inr fun _ b hb=>by rw[List.mem_singleton.1 hb]) (fun gf=>?_);refine A10 ?_;refine El (ι:={i:Nat // i≤30∧((frmT.take i).all fun o=>o.2.2.2 !=l)=true}) (fun⟨i,hi,hI⟩=>([(0,.string (strU l)),(3,slv (some gf) 0 30 30),(4,.int .i64 (i:Nat))],[⟨some gf,94,frmC frmT,120,true⟩],30-i)) ⟨0,Nat.zero_le _,rfl⟩ ?_;rintro⟨i,hi,hI⟩;(try dsimp only);refine A9 ?_;refine Cd ?_ ?_<;>intro hb5
     ·have hlt:i<30:=(by have:=of_decide_eq_true hb5;omega);obtain⟨o,ho⟩:∃o,frmT[i]? =some o:=⟨frmT[i]'(by show i<30;exact hlt),List.getElem?_eq_getElem _⟩;refine A8 ?_;refine Ix 0 (i*4) ?_;refine r_fieldAddr 0 (i*4) 3 rfl rfl rfl rfl rfl ti94 rfl rfl ?_;refine r_load (v:= .string (strU o.2.2.2)) 0 (i*4+3) _ rfl rfl rfl rfl ti9 (frmC_word ho) rfl (by decide) rfl ?_;refine A4 ?_;refine Cd ?_ ?_<;>intro hb6
      ·have hw:o.2.2.2=l:=by have hh:=hb6;rw[strU_beq] at hh;simpa using hh
       refine A11 ?_;refine E1 fun w hL=>⟨?_,hL.below⟩;exact eB (mres_yes ho hw).symm
      ·have hw:o.2.2.2≠l:=by have hh:=hb6;rw[strU_beq] at hh;simpa using hh
       refine A5 ?_;refine Ar (((i+1:Nat):Int)) ?_;refine A3 ?_;exact Nl ⟨i+1,hlt,by rw[List.take_add_one,ho,List.all_append,hI];simpa using hw⟩ (hL:=Weak.auto)
     ·have hge:i=30:=(by have:=of_decide_eq_false hb5;omega);subst hge;refine A11 ?_;refine E1 fun w hL=>⟨?_,hL.below⟩;exact eB (mres_no k1 k2 k3 k4 hI).symm
theorem c_law_isName(l:Bs8)(hl:l.length≤1000000):PCall Tryz.prog 14 #[.string (strU l)] (.bool (mnameL l)):=by
 refine⟨by kernel_rfl,fun w=>?_⟩;refine cB1 15 Tryz.func14 (LRel.nil w) ?_;refine A8 ?_;refine Pc (c_law_word l hl) ?_;refine A1 ?_;refine Rs 5 ?_ ?_<;>intro hb0
 ·have hw:wordL l=true:=hb0;refine A2 ?_;refine r_know 7 (.int .i64 (l.length:Nat)) rfl (by rw[strU_size]) ?_;refine A3 ?_;refine Rs 10 ?_ ?_<;>intro hb1
  ·have hl4:decide (l.length≤40)=true:=by have hh:=hb1;simp only[decide_eq_true_eq,decide_eq_false_iff_not] at hh ⊢;omega
   refine A1 ?_;refine Pc (c_law_reserved l) ?_;refine A6 ?_;refine E1 fun w hL=>⟨?_,hL.below⟩;exact eB (by unfold mnameL;rw[hw,hl4];rfl)
  ·have hl4:decide (l.length≤40)=false:=by have hh:=hb1;simp only[decide_eq_true_eq,decide_eq_false_iff_not] at hh ⊢;omega
   refine A8 ?_;refine E1 fun w hL=>⟨?_,hL.below⟩;exact eB (by unfold mnameL;rw[hw,hl4];rfl)
 ·have hw:wordL l=false:=hb0;refine A13 ?_;refine E1 fun w hL=>⟨?_,hL.below⟩;exact eB (by unfold mnameL;rw[hw];rfl)
theorem c_law_made_step(lv:Nat)(H:∀j,j<lv→MadC j)(b:Option Nat)(cap nn:Nat)(l:List Stp)(k:Nat)(rb:Option Nat)(off c:Nat)(hlv:1≤lv)(hlv2:lv≤1000)(hk:k≤l.length)(hcap:l.length≤cap)(hll:l.length≤1000000)(hr:k<l.length→rb=b∧off=3*k∧c=cap-k)(hS:∀s∈l,okS s):ECall Tryz.prog 65 [⟨b,92,stC l,nn,false⟩] [slv rb off (l.length-k) c,.int .i64 (lv:Nat)] (MadeR b cap l.length k lv) (fun r=> .tuple #[r.z.v,slv r.rb r.off (l.length-r.k') r.c]) (fun r=>[gB r.z.T true]):=by
 refine⟨by kernel_rfl,fun B w hD hL0=>?_⟩;refine cB2 129 Tryz.func65 hL0 ?_;refine A2 ?_;refine r_alloc [_,_,_,_,_,_,_] 7 (fun g=>[_,⟨some g,30,_,7,true⟩]) rfl rfl z30 rfl rfl (fun _=>rfl) (fun g0=>?_);refine A11 ?_;refine Cd ?_ ?_<;>intro hb0
 ·have hz0:l.length-k=0:=by have:=eq_of_beq hb0;omega
  refine A2 ?_;refine r_build [(0,_),(1,_)] rfl rfl rfl (bd30_2) ?_;refine So 1 0 [_,⟨some g0,30,_,7,true⟩] [_,_,_,_,_,_,_] ?_;refine A5 ?_;refine at_end2 rfl (res_cell 1 rfl rfl ti30 (vs:=[_,_,_,_,_,_,_]) rfl rfl (Nat.le_of_ble_eq_true rfl) rfl) (res_tmp rfl) (fun w hL=>⟨⟨aX,XR.named [97] 4,k,none,0,0,⟨good_a,Nat.le_refl _,hk,Nat.le_add_right _ _,by show(1:Nat)+0≤_;omega,fun h=>absurd h (by omega)⟩⟩,by
 show _=Ending.returned (.tuple #[(XR.named [97] 4).v,slv none 0 (l.length-k) 0]);rw[hz0];rfl,(show Weak _ [gB [] true] from Weak.trans (B:=[]) (weak_picks [] trivial rfl rfl) (Weak.newG [])) _ _ hL⟩)
 ·have hkl:k<l.length:=by have:=ne_of_beq_false hb0;omega
  obtain⟨e1,e2,e3⟩:=hr hkl;subst e1;subst e2;subst e3;obtain⟨s,hs⟩:∃s,l[k]? =some s:=⟨l[k],List.getElem?_eq_getElem hkl⟩;obtain⟨hs1,hs2,hs3⟩:=hS s (List.mem_of_getElem? hs);refine A3 ?_;refine at_drawnEM (X:=Nat) (l':=[⟨_,_,_,_,_,_⟩,⟨_,_,_,_,_,_⟩,⟨_,_,_,_,_,_⟩]) (fun g1=>[(1,.int .i64 (lv:Nat)),(4,.pointer (some ⟨g0,0,none⟩)),(6,.pointer (some ⟨g1,0,none⟩)),(7,slv rb (if cap-k=1 then 3*k else 3*k+1*3) (l.length-(k+1)) (cap-k-1))]) (fun g1=>[⟨rb,92,stC l,nn,false⟩,ZB g0,⟨some g1,92,stp3 s,3,true⟩]) [0,3,4] 5 mixed (by kernel_rfl) rfl ?_ ?_
  ·refine A2 ?_;refine r_sliceMO (off':=if cap-k=1 then 3*k else 3*k+1*3) (n':=l.length-(k+1)) (c':=cap-k-1) 1 u50 ti92 rfl rfl rfl rfl (by omega) rfl (by omega) rfl ?_;refine A1 ?_;refine Tn2 1 5 ?_ ?_
   ·refine r_indexAddr 0 (3*k) u50 ti92 rfl rfl rfl rfl rfl (by omega) (by omega) (stC_ne (by omega)) (by show 3*k+Int.toNat _*3=_;rfl) ?_;refine A1 ?_;refine Tn2 2 5 ?_ ?_
    ·refine r_load (v:= .agg #[.int .u8 (s.1:Nat),.int .u8 (s.2.1:Nat),.string (strU s.2.2)]) 0 (3*k) _ rfl rfl rfl rfl ti92 (by rw[Nat.mul_comm];exact stC_get hs) rfl (by decide) rfl ?_;refine A1 ?_;refine Tn1 5 ?_
     ·refine r_alloc [_,_,_] 3 (fun g=>[_,_,⟨some g,92,_,3,true⟩]) rfl rfl z92 rfl rfl (fun _=>rfl) (fun g1=>?_);refine A1 ?_;refine Tn1 6 ?_
      ·refine So 2 0 [_,_,⟨some g1,92,_,3,true⟩] [_,_,_] ?_;refine A1 ?_;refine Tn1 7 ?_
       ·refine A2 ?_;refine tr_nil (by kernel_rfl) ?_;exact⟨g1,rfl,⟨rfl,rfl,rfl,rfl,trivial⟩,List.Perm.refl _⟩
    ·refine r_alloc [_,_,_] 3 (fun g=>[_,_,⟨some g,92,_,3,true⟩]) rfl rfl z92 rfl rfl (fun _=>rfl) (fun g1=>?_);refine A1 ?_;refine Tn1 2 ?_
     ·refine r_load (v:= .agg #[.int .u8 (s.1:Nat),.int .u8 (s.2.1:Nat),.string (strU s.2.2)]) 0 (3*k) _ rfl rfl rfl rfl ti92 (by rw[Nat.mul_comm];exact stC_get hs) rfl (by decide) rfl ?_;refine A1 ?_;refine Tn1 6 ?_
      ·refine So 2 0 [_,_,⟨some g1,92,_,3,true⟩] [_,_,_] ?_;refine A1 ?_;refine Tn1 7 ?_
       ·refine A2 ?_;refine tr_nil (by kernel_rfl) ?_;exact⟨g1,rfl,⟨rfl,rfl,rfl,rfl,trivial⟩,List.Perm.refl _⟩
   ·refine r_alloc [_,_,_] 3 (fun g=>[_,_,⟨some g,92,_,3,true⟩]) rfl rfl z92 rfl rfl (fun _=>rfl) (fun g1=>?_);refine A1 ?_;refine Tn1 1 ?_
    ·refine r_indexAddr 0 (3*k) u50 ti92 rfl rfl rfl rfl rfl (by omega) (by omega) (stC_ne (by omega)) (by show 3*k+Int.toNat _*3=_;rfl) ?_;refine A1 ?_;refine Tn1 2 ?_
     ·refine r_load (v:= .agg #[.int .u8 (s.1:Nat),.int .u8 (s.2.1:Nat),.string (strU s.2.2)]) 0 (3*k) _ rfl rfl rfl rfl ti92 (by rw[Nat.mul_comm];exact stC_get hs) rfl (by decide) rfl ?_;refine A1 ?_;refine Tn1 6 ?_
      ·refine So 2 0 [_,_,⟨some g1,92,_,3,true⟩] [_,_,_] ?_;refine A1 ?_;refine Tn1 7 ?_
       ·refine A2 ?_;refine tr_nil (by kernel_rfl) ?_;exact⟨g1,rfl,⟨rfl,rfl,rfl,rfl,trivial⟩,List.Perm.refl _⟩
  rintro g1;show At _ ⟨129,[(1,.int .i64 (lv:Nat)),(4,.pointer (some ⟨g0,0,none⟩)),(6,.pointer (some ⟨g1,0,none⟩)),(7,slv rb (if cap-k=1 then 3*k else 3*k+1*3) (l.length-(k+1)) (cap-k-1))],[⟨rb,92,stC l,nn,false⟩,ZB g0,⟨some g1,92,stp3 s,3,true⟩]⟩ _;refine A2 ?_
  obtain⟨off1,hoff⟩:∃o,o=(if cap-k=1 then 3*k else 3*k+1*3):=⟨_,rfl⟩
  rw[←hoff];refine at_regionM ?_;refine r_scall [] [] rfl rfl rfl c_law_forms trivial rfl (.inr fun _ b hb=>by rw[List.mem_singleton.1 hb]) (fun gf=>?_);refine A4 ?_;obtain⟨o,ho⟩:∃o,frmT[s.1%30]? =some o:=⟨_,List.getElem?_eq_getElem (by show _<30;omega)⟩;refine A4 ?_;refine r_conv (r:=((s.1:Nat):Int)) u5 u3 rfl rfl rfl (wi (by omega) (by omega) (by omega)) ?_;refine A2 ?_;refine r_div (r:=((s.1%30:Nat):Int)) rfl rfl rfl rfl (by decide) (congrArg some (rem_n _ 30 rfl rfl)) ?_;refine Ix 3 (s.1%30*4) ?_;refine r_load (v:= .agg #[.int .i64 (o.1:Nat),.int .i64 (o.2.1:Nat),.int .i64 (o.2.2.1:Nat),.string (strU o.2.2.2)]) 3 (s.1%30*4) _ rfl rfl rfl rfl ti94 (frmC_get ho) rfl (by decide) rfl ?_;refine r_alloc [_,_,_,_] 4 (fun g=>[_,_,_,_,⟨some g,94,_,4,true⟩]) rfl rfl z94 rfl rfl (fun _=>rfl) (fun g2=>?_);refine So 4 0 [_,_,_,_,⟨some g2,94,_,4,true⟩] [_,_,_,_] ?_;refine A2 ?_;refine at_seqX (nt:=129) (X:={o:Fm4 // fOK o lv}) (fun⟨o,hoK⟩=>[(1,.int .i64 (lv:Nat)),(4,.pointer (some ⟨g0,0,none⟩)),(6,.pointer (some ⟨g1,0,none⟩)),(7,slv rb off1 (l.length-(k+1)) (cap-k-1)),(9,.pointer (some ⟨g2,0,none⟩))]) (fun⟨o,hoK⟩=>[⟨rb,92,stC l,nn,false⟩,ZB g0,⟨some g1,92,stp3 s,3,true⟩,⟨some g2,94,frm4 o,4,true⟩]) ?_ ?_
  ·refine A6 ?_;refine Cd ?_ ?_<;>intro hb1
   ·have hl1:lv≤1:=(by have:=of_decide_eq_true hb1;omega);obtain⟨o1,ho1⟩:∃o,leafT[s.1%4]? =some o:=⟨_,List.getElem?_eq_getElem (by show _<4;omega)⟩;refine A1 ?_;refine r_build [(0,_),(1,_),(2,_),(3,_)] rfl rfl rfl (bd94_4) ?_;refine r_build [(0,_),(1,_),(2,_),(3,_)] rfl rfl rfl (bd94_4) ?_;refine r_build [(0,_),(1,_),(2,_),(3,_)] rfl rfl rfl (bd94_4) ?_;refine r_build [(0,_),(1,_),(2,_),(3,_)] rfl rfl rfl (bd94_4) ?_;refine r_buildSlice [(0,_),(1,_),(2,_),(3,_)] (fun g=>[_,_,_,_,_,⟨some g,94,_,16,true⟩]) rfl rfl rfl (bs115_4) rfl (fun _=>rfl) (fun g3=>?_);refine A2 ?_;refine r_div (r:=((s.1%4:Nat):Int)) rfl rfl rfl rfl (by decide) (congrArg some (rem_n _ 4 rfl rfl)) ?_;refine Ix 5 (s.1%4*4) ?_;refine r_load (v:= .agg #[.int .i64 (o1.1:Nat),.int .i64 (o1.2.1:Nat),.int .i64 (o1.2.2.1:Nat),.string (strU o1.2.2.2)]) 5 (s.1%4*4) _ rfl rfl rfl rfl ti94 (frmC_get (l:=leafT) ho1) rfl (by decide) rfl ?_;refine So 4 0 [_,_,_,_,⟨some g2,94,_,4,true⟩,_] [_,_,_,_] ?_;refine A2 ?_;exact at_intoX ⟨o1,leafT_ok (List.mem_of_getElem? ho1)⟩ ⟨rfl,rfl,rfl,rfl,rfl,trivial⟩ (weak_pk [some 0,some 1,some 2,some 4])
   ·have hl2:2≤lv:=(by have:=of_decide_eq_false hb1;omega);refine A2 ?_;exact at_intoX ⟨o,frmT_ok (List.mem_of_getElem? ho) hl2⟩ ⟨rfl,rfl,rfl,rfl,rfl,trivial⟩ (weak_pk [some 0,some 1,some 2,some 4])
  rintro⟨o,hoK⟩;show At _ ⟨129,[(1,.int .i64 (lv:Nat)),(4,.pointer (some ⟨g0,0,none⟩)),(6,.pointer (some ⟨g1,0,none⟩)),(7,slv rb off1 (l.length-(k+1)) (cap-k-1)),(9,.pointer (some ⟨g2,0,none⟩))],[⟨rb,92,stC l,nn,false⟩,ZB g0,⟨some g1,92,stp3 s,3,true⟩,⟨some g2,94,frm4 o,4,true⟩]⟩ _;refine A4 ?_;refine r_build [(0,_)] rfl rfl rfl (bd30_1) ?_;refine r_alloc [_,_,_,_,_,_,_] 7 (fun g=>[_,_,_,_,⟨some g,30,_,7,true⟩]) rfl rfl z30 rfl rfl (fun _=>rfl) (fun g3=>?_);refine So 4 0 [_,_,_,_,⟨some g3,30,_,7,true⟩] [_,_,_,_,_,_,_] ?_;refine A2 ?_;refine at_seqX (nt:=129) (X:={u:Bs8×Rat // SOK o lv u}) (fun⟨u,hu⟩=>[(1,.int .i64 (lv:Nat)),(4,.pointer (some ⟨g0,0,none⟩)),(7,slv rb off1 (l.length-(k+1)) (cap-k-1)),(9,.pointer (some ⟨g2,0,none⟩)),(10,.pointer (some ⟨g3,0,none⟩))]) (fun⟨u,hu⟩=>[⟨rb,92,stC l,nn,false⟩,ZB g0,⟨some g1,92,stp3 s,3,true⟩,⟨some g2,94,frm4 o,4,true⟩,⟨some g3,30,NB7 (o.1:Nat) u.1 u.2 none 0 0,7,true⟩]) ?_ ?_
  ·refine A13 ?_;refine Cd ?_ ?_<;>intro hb2
   ·have ho1:o.1=1:=by have:=eq_of_beq hb2;omega
    refine A3 ?_;refine Pc (c_law_fraction s.2.1 hs2) ?_;refine A1 ?_;refine So 4 2 [_,_,_,_,⟨some g3,30,_,7,true⟩] [_,_,_,_,_,_,_] ?_;refine A3 ?_;exact at_intoX ⟨([],frQ s.2.1),sok_leaf hoK (.inl ho1) (by rw[ho1];exact goodM_num (frQ_bytes hs2))⟩ ⟨rfl,rfl,rfl,rfl,rfl,trivial⟩ (weak_pk [some 0,some 1,some 2,some 3,some 4])
   ·have ho1:o.1≠1:=by have:=ne_of_beq_false hb2;omega
    refine A6 ?_;refine Cd ?_ ?_<;>intro hb3
    ·have ho3:o.1=3:=by have:=eq_of_beq hb3;omega
     refine A3 ?_;refine r_conv (r:=((s.2.1:Nat):Int)) u5 u3 rfl rfl rfl (wi (by omega) (by omega) (by omega)) ?_;refine Ar (((1+s.2.1:Nat):Int)) ?_;refine Pc (c_rational_FromInt ((1+s.2.1:Nat):Int) (by omega) (by omega)) ?_;refine A1 ?_;refine So 4 2 [_,_,_,_,⟨some g3,30,_,7,true⟩] [_,_,_,_,_,_,_] ?_;refine A3 ?_;exact at_intoX ⟨([],(((1+s.2.1:Nat):Int):Rat)),sok_leaf hoK (.inr (.inl ho3)) (by rw[ho3];exact goodM_obj (obj_bytes hs2).2 (obj_bytes hs2).1)⟩ ⟨rfl,rfl,rfl,rfl,rfl,trivial⟩ (weak_pk [some 0,some 1,some 2,some 3,some 4])
    ·have ho3:o.1≠3:=by have:=ne_of_beq_false hb3;omega
     refine A6 ?_;refine Cd ?_ ?_<;>intro hb4
     ·have ho4:o.1=4:=by have:=eq_of_beq hb4;omega
      obtain⟨v,hv⟩:∃v,varT[s.2.1%4]? =some v:=⟨_,List.getElem?_eq_getElem (by show _<4;omega)⟩;refine A2 ?_;refine r_buildSlice [(0,_),(1,_),(2,_),(3,_)] (fun g=>[_,_,_,_,_,⟨some g,9,_,4,true⟩]) rfl rfl rfl (bs36_4) rfl (fun _=>rfl) (fun g4=>?_);refine A2 ?_;refine r_div (r:=((s.2.1%4:Nat):Int)) rfl rfl rfl rfl (by decide) (congrArg some (rem_n _ 4 rfl rfl)) ?_;refine Ix 5 (s.2.1%4*1) ?_;refine r_load (v:= .string (strU v)) 5 (s.2.1%4*1) _ rfl rfl rfl rfl ti9 (SB_get (l:=varT) hv) rfl (by decide) rfl ?_;refine A1 ?_;refine So 4 1 [_,_,_,_,⟨some g3,30,_,7,true⟩,_] [_,_,_,_,_,_,_] ?_;refine A6 ?_;refine Pc (c_law_isName s.2.2 (by omega)) ?_;refine A2 ?_;refine Cd ?_ ?_<;>intro hb5
      ·have hn:nameL s.2.2=true:=by rw[name_same];exact hb5
       refine A4 ?_;refine So 4 1 [_,_,_,_,⟨some g3,30,_,7,true⟩,_] [_,_,_,_,_,_,_] ?_;refine A3 ?_;exact at_intoX ⟨(s.2.2,0),sok_leaf hoK (.inr (.inr (.inl ho4))) (by rw[ho4];exact goodM_name (.inl ⟨rfl,hn⟩) (Nat.le_trans hs3 (by decide)))⟩ ⟨rfl,rfl,rfl,rfl,rfl,trivial⟩ (weak_picks [some 0,some 1,some 2,some 3,some 4] ⟨⟨_,rfl,Blk.le_refl _⟩,⟨_,rfl,Blk.le_refl _⟩,⟨_,rfl,Blk.le_refl _⟩,⟨_,rfl,Blk.le_refl _⟩,⟨_,rfl,le_same (congrArg (fun c=>(⟨some g3,30,c,7,true⟩:Blk)) (NB7_zero _ _ _ _ _))⟩,trivial⟩ rfl rfl)
      ·have hn:nameL s.2.2=false:=by rw[name_same];exact hb5
       refine A3 ?_;exact at_intoX ⟨(v,0),sok_leaf hoK (.inr (.inr (.inl ho4))) (by rw[ho4];exact goodM_name (.inl ⟨rfl,(varT_ok (List.mem_of_getElem? hv)).1⟩) (varT_ok (List.mem_of_getElem? hv)).2)⟩ ⟨rfl,rfl,rfl,rfl,rfl,trivial⟩ (weak_picks [some 0,some 1,some 2,some 3,some 4] ⟨⟨_,rfl,Blk.le_refl _⟩,⟨_,rfl,Blk.le_refl _⟩,⟨_,rfl,Blk.le_refl _⟩,⟨_,rfl,Blk.le_refl _⟩,⟨_,rfl,le_same (congrArg (fun c=>(⟨some g3,30,c,7,true⟩:Blk)) (NB7_zero _ _ _ _ _))⟩,trivial⟩ rfl rfl)
     ·have ho4:o.1≠4:=by have:=ne_of_beq_false hb4;omega
      refine A6 ?_;refine Cd ?_ ?_<;>intro hb5
      ·have ho5:o.1=5:=by have:=eq_of_beq hb5;omega
       obtain⟨v,hv⟩:∃v,zonT[s.2.1%3]? =some v:=⟨_,List.getElem?_eq_getElem (by show _<3;omega)⟩;refine A2 ?_;refine r_buildSlice [(0,_),(1,_),(2,_)] (fun g=>[_,_,_,_,_,⟨some g,9,_,3,true⟩]) rfl rfl rfl (bs36_3) rfl (fun _=>rfl) (fun g4=>?_);refine A2 ?_;refine r_div (r:=((s.2.1%3:Nat):Int)) rfl rfl rfl rfl (by decide) (congrArg some (rem_n _ 3 rfl rfl)) ?_;refine Ix 5 (s.2.1%3*1) ?_;refine r_load (v:= .string (strU v)) 5 (s.2.1%3*1) _ rfl rfl rfl rfl ti9 (SB_get (l:=zonT) hv) rfl (by decide) rfl ?_;refine A1 ?_;refine So 4 1 [_,_,_,_,⟨some g3,30,_,7,true⟩,_] [_,_,_,_,_,_,_] ?_;refine A6 ?_;refine Pc (c_law_isZone s.2.2 (by omega)) ?_;refine A2 ?_;refine Cd ?_ ?_<;>intro hb6
       ·have hn:zoneL s.2.2=true:=hb6;refine A4 ?_;refine So 4 1 [_,_,_,_,⟨some g3,30,_,7,true⟩,_] [_,_,_,_,_,_,_] ?_;refine A3 ?_;exact at_intoX ⟨(s.2.2,0),sok_leaf hoK (.inr (.inr (.inr ho5))) (by rw[ho5];exact goodM_name (.inr ⟨rfl,hn⟩) (Nat.le_trans hs3 (by decide)))⟩ ⟨rfl,rfl,rfl,rfl,rfl,trivial⟩ (weak_picks [some 0,some 1,some 2,some 3,some 4] ⟨⟨_,rfl,Blk.le_refl _⟩,⟨_,rfl,Blk.le_refl _⟩,⟨_,rfl,Blk.le_refl _⟩,⟨_,rfl,Blk.le_refl _⟩,⟨_,rfl,le_same (congrArg (fun c=>(⟨some g3,30,c,7,true⟩:Blk)) (NB7_zero _ _ _ _ _))⟩,trivial⟩ rfl rfl)
       ·have hn:zoneL s.2.2=false:=hb6;refine A3 ?_;exact at_intoX ⟨(v,0),sok_leaf hoK (.inr (.inr (.inr ho5))) (by rw[ho5];exact goodM_name (.inr ⟨rfl,(zonT_ok (List.mem_of_getElem? hv)).1⟩) (zonT_ok (List.mem_of_getElem? hv)).2)⟩ ⟨rfl,rfl,rfl,rfl,rfl,trivial⟩ (weak_picks [some 0,some 1,some 2,some 3,some 4] ⟨⟨_,rfl,Blk.le_refl _⟩,⟨_,rfl,Blk.le_refl _⟩,⟨_,rfl,Blk.le_refl _⟩,⟨_,rfl,Blk.le_refl _⟩,⟨_,rfl,le_same (congrArg (fun c=>(⟨some g3,30,c,7,true⟩:Blk)) (NB7_zero _ _ _ _ _))⟩,trivial⟩ rfl rfl)
      ·have ho5:o.1≠5:=by have:=ne_of_beq_false hb5;omega
       refine A6 ?_;refine Cd ?_ ?_<;>intro hb6
       ·have ho2:o.1=2:=by have:=eq_of_beq hb6;omega
        refine A1 ?_;refine at_drawn (l':=[⟨_,_,_,_,_,_⟩,⟨_,_,_,_,_,_⟩,⟨_,_,_,_,_,_⟩,⟨_,_,_,_,_,_⟩,⟨_,_,_,_,_,_⟩,⟨_,_,_,_,_,_⟩,⟨_,_,_,_,_,_⟩,⟨_,_,_,_,_,_⟩,⟨_,_,_,_,_,_⟩,⟨_,_,_,_,_,_⟩,⟨_,_,_,_,_,_⟩,⟨_,_,_,_,_,_⟩]) [] [0,1,4,5,6,2,3,7,8,9,10,11] mixed (by kernel_rfl) rfl (by kernel_rfl) ?_;refine A4 ?_;refine r_div (r:=((s.2.1/2:Nat):Int)) rfl rfl rfl rfl (by decide) (congrArg some (quo8 s.2.1 2 rfl rfl (by omega))) ?_;refine Pc (c_law_fraction s.2.1 hs2) ?_;refine r_build [(0,_),(2,_)] rfl rfl rfl (bd30_0_2x) ?_;refine Pc (c_law_fraction (s.2.1/2) (by omega)) ?_;refine r_build [(0,_),(2,_)] rfl rfl rfl (bd30_0_2x) ?_;refine r_buildSlice [(0,_),(1,_)] (fun g=>[_,_,_,_,_,⟨some g,30,_,14,true⟩]) rfl rfl rfl (bs28_2) rfl (fun _=>rfl) (fun g4=>?_);refine A1 ?_;refine So 4 6 [_,_,_,_,⟨some g3,30,_,7,true⟩,_] [_,_,_,_,_,_,_] ?_;refine A4 ?_;refine Ld 4 0 [_,_,_,_,_,_,_] ti30 ?_;refine A1 ?_;refine So 1 0 [_,⟨some g0,30,_,7,true⟩,_,_,_,_] [_,_,_,_,_,_,_] ?_;refine A6 ?_;refine at_end2 rfl (res_cell 1 rfl rfl ti30 (vs:=[_,_,_,_,_,_,_]) rfl rfl (Nat.le_of_ble_eq_true rfl) rfl) (res_tmp rfl) (fun w hL=>⟨⟨_,(XR.num (frQ s.2.1) 1).node2 2 (XR.num (frQ (s.2.1/2)) 1) g4,k+1,rb,off1,cap-k-1,⟨point_good (frQ_bytes hs2) (frQ_bytes (by omega)),by omega,by omega,by show(3:Nat)≤_;omega,by show(2:Nat)≤_;have:=fOK_pt hoK ho2;omega,fun h=>⟨rfl,by rw[hoff,if_neg (by omega)];omega,by omega⟩⟩⟩,by rw[ho2];rfl,(weak_pt2 (frQ s.2.1) (frQ (s.2.1/2))) _ _ hL⟩)
       ·have ho2:o.1≠2:=by have:=ne_of_beq_false hb6;omega
        refine A3 ?_;exact at_intoX ⟨([],0),sok_tree hoK ho1 ho3 ho4 ho5 ho2⟩ ⟨rfl,rfl,rfl,rfl,rfl,trivial⟩ (weak_picks [some 0,some 1,some 2,some 3,some 4] ⟨⟨_,rfl,Blk.le_refl _⟩,⟨_,rfl,Blk.le_refl _⟩,⟨_,rfl,Blk.le_refl _⟩,⟨_,rfl,Blk.le_refl _⟩,⟨_,rfl,le_same (congrArg (fun c=>(⟨some g3,30,c,7,true⟩:Blk)) (NB7_zero _ _ _ _ _))⟩,trivial⟩ rfl rfl)
  rintro⟨u,hu⟩;show At _ ⟨129,[(1,.int .i64 (lv:Nat)),(4,.pointer (some ⟨g0,0,none⟩)),(7,slv rb off1 (l.length-(k+1)) (cap-k-1)),(9,.pointer (some ⟨g2,0,none⟩)),(10,.pointer (some ⟨g3,0,none⟩))],[⟨rb,92,stC l,nn,false⟩,ZB g0,⟨some g1,92,stp3 s,3,true⟩,⟨some g2,94,frm4 o,4,true⟩,⟨some g3,30,NB7 (o.1:Nat) u.1 u.2 none 0 0,7,true⟩]⟩ _;refine A7 ?_;refine El (ι:=MadeS rb cap l.length (k+1) lv o.2.1) (fun⟨i,ls,z,k2,rb2,off2,c2,hM⟩=>([(1,.int .i64 (lv:Nat)),(4,.pointer (some ⟨g0,0,none⟩)),(7,slv rb2 off2 (l.length-k2) c2),(9,.pointer (some ⟨g2,0,none⟩)),(10,.pointer (some ⟨g3,0,none⟩)),(11,.int .i64 (i:Nat))],[⟨rb,92,stC l,nn,false⟩,ZB g0,⟨some g2,94,frm4 o,4,true⟩,AG g3 (o.1:Nat) u.1 (decide (u.2.num<0)) (mag u.2.num.natAbs) false (dm u.2) z,gB z.T true,⟨z.b,30,z.cs,z.n,true⟩],o.2.1-i)) ⟨0,[],XA.zero,k+1,rb,off1,cap-k-1,⟨fun y hy=>(by cases hy),rfl,Nat.zero_le _,Nat.le_refl _,by omega,by rw[XT.sizes];omega,by rw[XT.deps];omega,fun h=>⟨rfl,by rw[hoff,if_neg (by omega)];omega,by omega⟩⟩⟩ ?_ (hL:=(Weak.trans (B:=[⟨rb,92,stC l,nn,false⟩,ZB g0,⟨some g2,94,frm4 o,4,true⟩,⟨some g3,30,NB7 (o.1:Nat) u.1 u.2 none 0 0,7,true⟩]) (weak_pk [some 0,some 1,some 3,some 4]) (Weak.trans (Weak.newG _) (Weak.nilB _ (by decide)))));rintro⟨i,ls,z,k2,rb2,off2,c2,hM⟩;(try dsimp only);have hc3:=sok_le hu;have hM2:=hM.2.1;have hM3:=hM.2.2.1;have hM5:=hM.2.2.2.2.1;have hM8:=hM.2.2.2.2.2.2.2;refine A9 ?_;refine Cd ?_ ?_<;>intro hb4
  ·have hlt:i<o.2.1:=(by have:=of_decide_eq_true hb4;omega);have hl2:2≤lv:=(hu.2 (by omega)).2.2;refine A6 ?_;refine r_alloc [_,_,_,_,_,_,_] 7 (fun g=>[_,_,_,_,_,_,⟨some g,30,_,7,true⟩]) rfl rfl z30 rfl rfl (fun _=>rfl) (fun g4=>?_);refine A3 ?_;refine at_regionM ?_;refine A2 ?_;refine Ar (((lv-1:Nat):Int)) ?_;refine Gm 0 [] [0] (fun r=>[_,_,_,_,_,_,_,gB r.z.T true]) (H (lv-1) (by omega) rb cap nn l k2 rb2 off2 c2 (by omega) (by omega) hM5 hcap hll hM8 hS) (fun r=>?_);refine A3 ?_;refine So 6 0 [_,_,_,_,_,_,⟨some g4,30,_,7,true⟩,_] [_,_,_,_,_,_,_] ?_;refine A6 ?_;refine Ld 6 0 [_,_,_,_,_,_,_] ti30 ?_;refine Kr 123 (r.z.v) ?_;refine r_buildSlice [(0,_)] (fun g=>[_,_,_,_,_,_,_,_,⟨some g,30,_,7,true⟩]) rfl rfl rfl (bs28_1) rfl (fun _=>rfl) (fun g5=>?_);refine q_append (b:=⟨z.b,30,z.cs,z.n,true⟩) (len:=ls.length) (cap:=z.cap) (n2:=1) 5 8 (fun ar=>[_,_,_,_,_,⟨some ar.g,30,z.cs++r.z.cs,ar.n,true⟩,_,_,_]) u28 el30 rfl rfl rfl rfl rfl rfl rfl rfl rfl rfl rfl rfl z.hlen z.hcap z.hn rfl (fun v hv=>simpleT_one r.z.cs_simple v hv) (by omega) (fun ar=>rfl) (fun ar=>?_);refine A1 ?_;refine So 3 6 [_,_,_,⟨some g3,30,_,7,true⟩,_,_,_,_,_] [_,_,_,_,_,_,_] ?_;refine A5 ?_;refine Ar (((i+1:Nat):Int)) ?_;refine A3 ?_;exact Nl ⟨i+1,ls++[r.x],z.add r.z ar,r.k',r.rb,r.off,r.c,made_step hl2 hM hlt r⟩ (hL:=(weak_addG z r.z ar))
  ·have hge:¬i<o.2.1:=(by have:=of_decide_eq_false hb4;omega);refine A7 ?_;refine Ld 3 0 [_,_,_,_,_,_,_] ti30 ?_;refine A1 ?_;refine So 1 0 [_,⟨some g0,30,_,7,true⟩,_,_,_,_] [_,_,_,_,_,_,_] ?_;refine A4 ?_;refine at_end2 rfl (res_cell 1 rfl rfl ti30 (vs:=[_,_,_,_,_,_,_]) rfl rfl (Nat.le_of_ble_eq_true rfl) rfl) (res_tmp rfl) (fun w hL=>⟨⟨_,z.finG (o.1:Nat) u.1 (u:= .q u.2) rfl,k2,rb2,off2,c2,made_fin hu hlv (by omega) hM hge⟩,rfl,(Weak.trans (B:=[gB z.T true,⟨z.b,30,z.cs,z.n,true⟩]) (weak_pk [some 4,some 5]) (weak_fin z)) _ _ hL⟩)
theorem c_law_made(lv:Nat):MadC lv:=Nat.strongRecOn lv fun lv H b cap nn l k rb off c h1 h2 h3 h4 h5 h6 h7=>c_law_made_step lv H b cap nn l k rb off c h1 h2 h3 h4 h5 h6 h7
theorem made_facts{b:Option Nat}{cap n lv:Nat}(r:MadeR b cap n 0 lv)(hn:n≤40)(hl:lv≤32):chkE r.x=0∧okX r.x∧qX r.x∧r.x.fit=true∧r.x.size≤121∧(txt r.x 1).length≤48400:=by
 obtain⟨⟨h1,h2,h3⟩,h4,h5,h6,h7,_⟩:=r.h
 have h8:=txt_len r.x 1 h3
 refine⟨?_,h1,h2,tiny_fit _ h2 h3,by omega,by omega⟩
 unfold chkE
 rw[chk_good r.x 1 0 h1 (by omega) (by omega)]
theorem c_law_Make(lv:Nat)(b:Option Nat)(cap nn:Nat)(l:List Stp)(hlv:1≤lv)(hlv2:lv≤1000)(hcap:l.length≤cap)(hll:l.length≤1000000)(hS:∀s∈l,okS s):ECall Tryz.prog 33 [⟨b,92,stC l,nn,false⟩] [slv b 0 l.length cap,.int .i64 (lv:Nat)] (MadeR b cap l.length 0 lv) (fun r=>r.z.v) (fun r=>[gB r.z.T true]):=by
 refine⟨by kernel_rfl,fun B w hD hL0=>?_⟩;refine cB2 14 Tryz.func33 hL0 ?_;refine A2 ?_;refine r_alloc [_,_,_,_,_,_,_] 7 (fun g=>[_,⟨some g,30,_,7,true⟩]) rfl rfl z30 rfl rfl (fun _=>rfl) (fun g0=>?_);refine A3 ?_;refine at_regionM ?_;refine A2 ?_;refine Gm 0 [] [0] (fun r=>[_,_,gB r.z.T true]) (c_law_made lv b cap nn l 0 b 0 cap hlv hlv2 (Nat.zero_le _) hcap hll (fun _=>⟨rfl,rfl,rfl⟩) hS) (fun r=>?_);refine A3 ?_;refine r_alloc [_,_,_,_,_,_,_] 7 (fun g=>[_,_,_,⟨some g,30,_,7,true⟩]) rfl rfl z30 rfl rfl (fun _=>rfl) (fun g1=>?_);refine So 3 0 [_,_,_,⟨some g1,30,_,7,true⟩] [_,_,_,_,_,_,_] ?_;refine A5 ?_;refine Ld 3 0 [_,_,_,_,_,_,_] ti30 ?_;refine Kr 13 (r.z.v) ?_;refine So 1 0 [_,⟨some g0,30,_,7,true⟩,_,_] [_,_,_,_,_,_,_] ?_;refine A3 ?_;refine at_end1 rfl (res_cell 1 rfl rfl ti30 (vs:=[_,_,_,_,_,_,_]) rfl rfl (Nat.le_of_ble_eq_true rfl) rfl) (fun w hL=>⟨r,rfl,(show Weak _ [gB r.z.T true] from weak_pk [some 2]) _ _ hL⟩)
theorem c_Variables_none{x:XT}(z:XR x)(hM:x.size≤1000000)(h:varsU x=[]):ECall Tryz.prog 25 [gB z.T false] [z.v] (SRw (varsU x)) (fun s=>slv s.b 0 0 s.cap) (fun s=>[VR s]):=by
 have h1:=c_Variables z hM
 have e:(fun s:SRw (varsU x)=>slv s.b 0 (varsU x).length s.cap)=fun s=>slv s.b 0 0 s.cap:=funext fun s=>by rw[show(varsU x).length=0 from by rw[h];rfl]
 rw[e] at h1
 exact h1
theorem c_Size_n{x:XT}(z:XR x)(hM:x.size≤1000000000)(k:Nat)(hk:x.size=k):ECall Tryz.prog 20 [gB z.T false] [z.v] Unit (fun _=> .int .i64 (k:Nat)) (fun _=>[]):=by
 have h1:=c_Size z hM
 rw[foldN_size,Nat.zero_add,hk] at h1
 exact h1
def wantI(names:List Bs8)(ids:List Int)(i w:Nat):Prop:=(w=5∧names.length≠ids.length)∨(names.length=ids.length∧((w=0∧badNs (ids.take i)=false)∨(w=27∧badNs ids=true)))
theorem wantI_0{names:List Bs8}{ids:List Int}{w:Nat}(h:(w=5∧names.length≠ids.length)∨(w=0∧names.length=ids.length)):wantI names ids 0 w:=by
 rcases h with h|h
 ·exact .inl h
 ·exact .inr ⟨h.2,.inl ⟨h.1,rfl⟩⟩
theorem wantI_end{names:List Bs8}{ids:List Int}{x:XT}{i w:Nat}(h0:chkE x=0)(h:wantI names ids i w)(he:ids.length≤i∨w≠0):w=bdE names ids x:=by
 rcases h with⟨h1,h2⟩|⟨h2,⟨h1,h3⟩|⟨h1,h3⟩⟩
 ·rw[bdE_len h0 h2,h1]
 ·rcases he with he|he
  ·rw[List.take_of_length_le he] at h3
   rw[bdE_ok h0 h2 h3,h1]
  ·exact absurd h1 he
 ·rw[bdE_bad h0 h2 h3,h1]
theorem wantI_ok{names:List Bs8}{ids:List Int}{i:Nat}{id:Int}(h:wantI names ids i 0)(hid:ids[i]? =some id)(hb:badN id=false):wantI names ids (i+1) 0:=by
 rcases h with⟨h1,h2⟩|⟨h2,⟨h1,h3⟩|⟨h1,h3⟩⟩
 ·cases h1
 ·exact .inr ⟨h2,.inl ⟨rfl,bad_step hid hb h3⟩⟩
 ·cases h1
theorem wantI_bad{names:List Bs8}{ids:List Int}{i:Nat}{id:Int}(h:wantI names ids i 0)(hid:ids[i]? =some id)(hb:badN id=true):wantI names ids (i+1) 27:=by
 rcases h with⟨h1,h2⟩|⟨h2,_⟩
 ·cases h1
 ·exact .inr ⟨h2,.inr ⟨rfl,bad_here hid hb⟩⟩
theorem bindX_size1{names:List Bs8}{ids:List Int}{x:XT}(h:okX x)(hE:bdE names ids x=0):(bdX names ids x).size=x.size:=by rw[←bdX_yes hE,bindX_size x h]
end Go.Proofs.YtfijbadahkmhbaaGreatDoor
namespace Go.Via
open Go Go.RowKit
abbrev Frm:=Nat×Nat×Nat×Bs8
theorem frmC_op{l:List Frm}{i:Nat}{o:Frm}(h:l[i]? =some o):((frmC l).drop (i*4)).take 1=[.int .i64 (o.1:Nat)]:=by
 have h1:=frmC_get h
 have h2:(((frmC l).drop (i*4)).take 4).take 1=[.int .i64 (o.1:Nat)]:=by rw[h1];rfl
 rw[List.take_take] at h2
 exact h2
def mfind(op:Int):Option Frm:=frmT.find? (fun o=>decide ((o.1:Int)=op))
def mofV(op:Int):Value:=match mfind op with
 |some o=> .tuple #[.agg (frm4 o).toArray,.bool true]
 |none=> .tuple #[.agg #[.int .i64 0,.int .i64 0,.int .i64 0,.string ⟨#[]⟩],.bool false]
theorem frm_cnt:∀o∈frmT,cntL (o.1:Int)=(o.2.1:Int):=by
 have h:frmT.all (fun o=>decide (cntL (o.1:Int)=(o.2.1:Int)))=true:=by decide+kernel
 intro o ho
 exact of_decide_eq_true (List.all_eq_true.1 h o ho)
theorem cnt_some{op:Int}{o:Frm}(h:mfind op=some o):cntL op=(o.2.1:Int):=by
 have h1:((o.1:Nat):Int)=op:=by have:=List.find?_some h;simpa using this
 rw[←h1]
 exact frm_cnt o (List.mem_of_find?_eq_some h)
theorem cnt_none{op:Int}(h:mfind op=none):cntL op= -1:=by
 have hn:∀k:Nat,(frmT.any fun o=>o.1==k)=true→(k:Int)≠op:=fun k hk e=>by
  obtain⟨o,ho,hk2⟩:=List.any_eq_true.1 hk
  have:=List.find?_eq_none.1 h o ho
  rw[eq_of_beq hk2] at this
  simp[e] at this
 have a1:=hn 1 (by decide+kernel)
 have a2:=hn 2 (by decide+kernel)
 have a3:=hn 3 (by decide+kernel)
 have a4:=hn 4 (by decide+kernel)
 have a5:=hn 5 (by decide+kernel)
 have a6:=hn 6 (by decide+kernel)
 have a25:=hn 25 (by decide+kernel)
 unfold cntL
 rw[if_neg (by omega),if_neg (by omega),if_neg (by omega)]
 have f1:funT.find? (fun f=>decide ((f.2.1:Int)=op))=none:=by
  refine List.find?_eq_none.2 fun f hf=>?_
  have h1:funT.all (fun f=>frmT.any fun o=>o.1==f.2.1)=true:=by decide+kernel
  have:=hn f.2.1 (List.all_eq_true.1 h1 f hf)
  simpa using this
 have f2:opsT.find? (fun f=>decide ((f.2.1:Int)=op))=none:=by
  refine List.find?_eq_none.2 fun f hf=>?_
  have h1:opsT.all (fun f=>frmT.any fun o=>o.1==f.2.1)=true:=by decide+kernel
  have:=hn f.2.1 (List.all_eq_true.1 h1 f hf)
  simpa using this
 rw[f1,f2]
noncomputable def mnode(x:XT)(lv n:Nat):Nat:=if 256≤n then 3 else if 32<lv then 33 else nodeE x
mutual
noncomputable def mch:XT→Nat→Nat→Nat×Nat
 | .mk o nm u l,lv,n=>if mnode (.mk o nm u l) lv n≠0 then(mnode (.mk o nm u l) lv n,n+1) else mchs l (lv+1) (n+1)
noncomputable def mchs:List XT→Nat→Nat→Nat×Nat
 |[],_,n=>(0,n)
 |x::l,lv,n=>if(mch x lv n).1≠0 then mch x lv n else mchs l lv (mch x lv n).2
end
theorem mch_eq(x:XT)(lv n:Nat):mch x lv n=if mnode x lv n≠0 then(mnode x lv n,n+1) else mchs x.args (lv+1) (n+1):=by
 cases x with
 |mk o nm u l=>rw[mch];rfl
theorem mchs_step{l:List XT}{i:Nat}{y:XT}{lv n:Nat}(hy:l[i]? =some y):mchs (l.drop i) lv n=if(mch y lv n).1≠0 then mch y lv n else mchs (l.drop (i+1)) lv (mch y lv n).2:=by
 obtain⟨hl,rfl⟩:=List.getElem?_eq_some_iff.1 hy
 rw[List.drop_eq_getElem_cons hl,mchs]
mutual
theorem mch_chk:∀(x:XT) (lv n:Nat),(mch x lv n).1=(chk x lv n).1∧((chk x lv n).1=0→(mch x lv n).2=(chk x lv n).2)
 | .mk o nm u l,lv,n=>by
   rw[mch,chk,mnode]
   by_cases h1:256≤n
   ·rw[if_pos h1,if_pos h1,if_pos (by decide)];exact⟨rfl,fun h=>by cases h⟩
   ·rw[if_neg h1,if_neg h1]
    by_cases h2:32<lv
    ·rw[if_pos h2,if_pos h2,if_pos (by decide)];exact⟨rfl,fun h=>by cases h⟩
    ·rw[if_neg h2,if_neg h2]
     by_cases h3:nodeE (.mk o nm u l)≠0
     ·rw[if_pos h3,if_pos h3];exact⟨rfl,fun _=>rfl⟩
     ·rw[if_neg h3,if_neg h3];exact mchs_chk l (lv+1) (n+1)
theorem mchs_chk:∀(l:List XT) (lv n:Nat),(mchs l lv n).1=(chks l lv n).1∧((chks l lv n).1=0→(mchs l lv n).2=(chks l lv n).2)
 |[],lv,n=>by rw[mchs,chks];exact⟨rfl,fun _=>rfl⟩
 |x::l,lv,n=>by
  obtain⟨a1,a2⟩:=mch_chk x lv n
  rw[mchs,chks,a1]
  by_cases h:(chk x lv n).1≠0
  ·rw[if_pos h,if_pos h];exact⟨a1,a2⟩
  ·rw[if_neg h,if_neg h,a2 (by omega)];exact mchs_chk l lv _
end
theorem mnode_0{x:XT}{lv n:Nat}(h:mnode x lv n=0):n<256∧lv≤32∧nodeE x=0:=by
 unfold mnode at h
 split at h
 ·cases h
 ·split at h
  ·cases h
  ·exact⟨by omega,by omega,h⟩
mutual
theorem mch_le0:∀(x:XT) (lv n:Nat),n≤256→(mch x lv n).1=0→(mch x lv n).2≤256
 | .mk o nm u l,lv,n,h,h0=>by
   rw[mch] at h0 ⊢
   split at h0
   ·rename_i h2;exact absurd h0 h2
   ·rename_i h2
    have:=mnode_0 (x:= .mk o nm u l) (lv:=lv) (n:=n) (by omega)
    rw[if_neg h2];exact mchs_le0 l _ _ (by omega) h0
theorem mchs_le0:∀(l:List XT) (lv n:Nat),n≤256→(mchs l lv n).1=0→(mchs l lv n).2≤256
 |[],lv,n,h,h0=>by rw[mchs];exact h
 |x::l,lv,n,h,h0=>by
  rw[mchs] at h0 ⊢
  split at h0
  ·rename_i h2;exact absurd h0 h2
  ·rename_i h2
   rw[if_neg h2];exact mchs_le0 l lv _ (mch_le0 x lv n h (by omega)) h0
end
end Go.Via
namespace Go.Proofs.YtfijbadahkmhbaaGreatDoor
open Go Go.RowKit Go.Via
theorem c_law_of(op:Int):ECall Tryz.prog 66 [] [.int .i64 op] Unit (fun _=>mofV op) (fun _=>[]):=by
 refine⟨by kernel_rfl,fun B w hD hL0=>?_⟩;refine cB1 25 Tryz.func66 hL0 ?_;refine A2 ?_;refine r_alloc [_,_,_,_] 4 (fun g=>[⟨some g,94,_,4,true⟩]) rfl rfl z94 rfl rfl (fun _=>rfl) (fun g0=>?_);refine A5 ?_;refine r_scall [] [] rfl rfl rfl c_law_forms trivial rfl (.inr fun _ b hb=>by rw[List.mem_singleton.1 hb]) (fun gf=>?_);refine A10 ?_;refine El (ι:={i:Nat // i≤30∧(frmT.take i).find? (fun o=>decide ((o.1:Int)=op))=none}) (fun⟨i,hi,hI⟩=>([(0,.int .i64 op),(2,.pointer (some ⟨g0,0,none⟩)),(4,slv (some gf) 0 30 30),(5,.int .i64 (i:Nat))],[⟨some g0,94,[.int .i64 0,.int .i64 0,.int .i64 0,.string ⟨#[]⟩],4,true⟩,⟨some gf,94,frmC frmT,120,true⟩],30-i)) ⟨0,Nat.zero_le _,rfl⟩ ?_;rintro⟨i,hi,hI⟩;(try dsimp only);refine A9 ?_;refine Cd ?_ ?_<;>intro hb1
 ·have hlt:i<30:=(by have:=of_decide_eq_true hb1;omega);obtain⟨o,ho⟩:∃o,frmT[i]? =some o:=⟨frmT[i]'(by show i<30;exact hlt),List.getElem?_eq_getElem _⟩;refine A8 ?_;refine Ix 1 (i*4) ?_;refine r_fieldAddr 1 (i*4) 0 rfl rfl rfl rfl rfl ti94 rfl rfl ?_;refine r_load (v:= .int .i64 (o.1:Nat)) 1 (i*4) _ rfl rfl rfl rfl ti3 (frmC_op ho) rfl (by decide) rfl ?_;refine A4 ?_;refine Cd ?_ ?_<;>intro hb2
  ·have hop:(o.1:Int)=op:=by have hh:=hb2;simpa using hh
   refine A4 ?_;refine Ix 1 (i*4) ?_;refine r_load (v:= .agg #[.int .i64 (o.1:Nat),.int .i64 (o.2.1:Nat),.int .i64 (o.2.2.1:Nat),.string (strU o.2.2.2)]) 1 (i*4) _ rfl rfl rfl rfl ti94 (frmC_get ho) rfl (by decide) rfl ?_;refine So 0 0 [⟨some g0,94,_,4,true⟩,_] [_,_,_,_] ?_;refine A9 ?_;refine at_end2 rfl (res_cell 0 rfl rfl ti94 (vs:=[_,_,_,_]) rfl rfl (Nat.le_of_ble_eq_true rfl) rfl) (res_tmp rfl) (fun w hL=>⟨(),by unfold mofV;rw[show mfind op=some o from find_some_at hI ho (by simpa using hop)];rfl,hL.pk []⟩)
  ·have hop:(o.1:Int)≠op:=by have hh:=hb2;simpa using hh
   refine A5 ?_;refine Ar (((i+1:Nat):Int)) ?_;refine A3 ?_;exact Nl ⟨i+1,hlt,find_none_step hI ho (by simpa using hop)⟩
 ·have hge:i=30:=(by have:=of_decide_eq_false hb1;omega);subst hge;refine A7 ?_;refine r_build [] rfl rfl rfl (bd94_0) ?_;refine So 0 0 [⟨some g0,94,_,4,true⟩,_] [_,_,_,_] ?_;refine A4 ?_;refine at_end2 rfl (res_cell 0 rfl rfl ti94 (vs:=[_,_,_,_]) rfl rfl (Nat.le_of_ble_eq_true rfl) rfl) (res_tmp rfl) (fun w hL=>⟨(),by unfold mofV;rw[show mfind op=none from find_none_all hI (Nat.le_refl _)],hL.pk []⟩)
theorem c_law_isIdQ(q:Rat)(hq:szQ q≤1000000):PCall Tryz.prog 110 #[Q q] (.bool (idOK q)):=by
 refine⟨by kernel_rfl,fun w=>?_⟩;refine cB1 29 Tryz.func110 (LRel.nil w) ?_;refine A2 ?_;refine Bo [_,_,_,_] 4 (fun g=>[⟨some g,27,_,4,true⟩]) (fun g0=>?_);refine A6 ?_;refine Ld 0 0 [_,_,_,_] ti27 ?_;refine r_pcall [_] rfl rfl rfl (c_rational_Check _ _ _ _ (by rw[mag_size];exact nb_num hq) (dm_sz hq)) ?_;refine r_know 6 (.int .i64 0) rfl (by rw[isQ_Q];rfl) ?_;refine A1 ?_;refine Kr 7 (.bool false) ?_;refine A2 ?_;refine Ld 0 2 [_,_] ti25 ?_;refine r_build [] rfl rfl rfl (bd25_0) ?_;refine r_neqAgg rfl rfl rfl rfl gd25 (eq25r _ _ _ _) ?_;refine r_know 12 (.bool (!decide (q.den=1))) rfl (by rw[dm_nil]) ?_;refine A3 ?_;refine Cd ?_ ?_<;>intro hb0
 ·have hden:¬q.den=1:=by simpa using hb0
  refine A7 ?_;refine E1 fun w hL=>⟨?_,hL.below⟩;exact eB (by unfold idOK;rw[decide_eq_false hden];rfl)
 ·have hden:q.den=1:=by simpa using hb0
  refine A5 ?_;refine Ld 0 0 [_,_] ti25 ?_;refine Kr 16 (I q.num) ?_;refine Pc (c_integer_ToInt q.num) ?_;refine A11 ?_;refine Rs 21 ?_ ?_<;>intro hb1
  ·have hin:(-9223372036854775808≤q.num∧q.num≤9223372036854775807):=of_decide_eq_true hb1;refine A1 ?_;refine r_know 22 (.int .i64 q.num) rfl (by rw[if_pos hin]) ?_;refine A3 ?_;refine Rs 25 ?_ ?_<;>intro hb2
   ·have h1:1≤q.num:=(by have:=of_decide_eq_true hb2;omega);refine A1 ?_;refine r_know 26 (.int .i64 q.num) rfl (by rw[if_pos hin]) ?_;refine A6 ?_;refine E1 fun w hL=>⟨?_,hL.below⟩;exact eB (by unfold idOK;rw[decide_eq_true hden,decide_eq_true h1];rfl)
   ·have h1:¬1≤q.num:=(by have:=of_decide_eq_false hb2;omega);refine A7 ?_;refine E1 fun w hL=>⟨?_,hL.below⟩;exact eB (by unfold idOK;rw[decide_eq_false h1,Bool.and_false];rfl)
  ·have hin:¬(-9223372036854775808≤q.num∧q.num≤9223372036854775807):=of_decide_eq_false hb1;refine A11 ?_;refine E1 fun w hL=>⟨?_,hL.below⟩;exact eB (by unfold idOK;rw[Bool.and_assoc,show(decide (1≤q.num)&&decide (q.num≤1073741824))=false by(rw[←Bool.not_eq_true];simp;omega),Bool.and_false])
theorem c_law_isIdR(b1:Bool)(s1:ByteArray)(b2:Bool)(s2:ByteArray)(hs1:s1.size≤1000000)(hs2:s2.size≤1000000)(hq:isQ b1 s1 b2 s2=false):PCall Tryz.prog 110 #[.agg #[.bool b1,.string s1,.bool b2,.string s2]] (.bool false):=by
 refine⟨by kernel_rfl,fun w=>?_⟩;refine cB1 29 Tryz.func110 (LRel.nil w) ?_;refine A2 ?_;refine Bo [_,_,_,_] 4 (fun g=>[⟨some g,27,_,4,true⟩]) (fun g0=>?_);refine A6 ?_;refine Ld 0 0 [_,_,_,_] ti27 ?_;refine Pc (c_rational_Check b1 s1 b2 s2 hs1 hs2) ?_;refine r_know 6 (.int .i64 5) rfl (by rw[hq];rfl) ?_;refine A1 ?_;refine Kr 7 (.bool true) ?_;refine A16 ?_;refine E1 fun w hL=>⟨?_,hL.below⟩;exact rfl
end Go.Proofs.YtfijbadahkmhbaaGreatDoor
namespace Go.Via
open Go Go.RowKit
abbrev VK(gc n:Nat):Blk:=⟨some gc,73,[.int .i64 (n:Nat)],1,true⟩
theorem cnt_pos{op:Int}{o:Frm}(h:mfind op=some o)(h1:op≠1)(h3:op≠3)(h4:op≠4)(h5:op≠5):1≤o.2.1:=by
 have ho:((o.1:Nat):Int)=op:=by have:=List.find?_some h;simpa using this
 have hk:frmT.all (fun o=>o.1==1||o.1==3||o.1==4||o.1==5||decide (1≤o.2.1))=true:=by decide+kernel
 have:=List.all_eq_true.1 hk o (List.mem_of_find?_eq_some h)
 simp only[Bool.or_eq_true,beq_iff_eq,decide_eq_true_eq] at this
 omega
theorem mn_arg{l:List XT}{i:Nat}{y:XT}(hy:l[i]? =some y)(ha:y.op≠1)(hi:i<2):(l.map XT.op)[0]? ≠some 1∨(l.map XT.op)[1]? ≠some 1:=by
 have h:(l.map XT.op)[i]? ≠some 1:=by rw[List.getElem?_map,hy];simpa using ha
 match i,hi with
 |0,_=>exact .inl h
 |1,_=>exact .inr h
end Go.Via
namespace Go.Proofs.YtfijbadahkmhbaaGreatDoor
open Go Go.RowKit Go.Via
theorem c_law_isIdZ{x:XT}(z:XR x)(hf:x.num.fit=true):PCall Tryz.prog 110 #[.agg #[.bool z.b1,.string z.s1,.bool z.b2,.string z.s2]] (.bool x.num.isId):=by
 obtain⟨_,_,h3,_,_,_⟩:=z.inv
 have hs:=NumV.fit_cells h3 hf
 cases ho:x.num.ok with
 |true=>
  obtain⟨q,h1,h2,h4,h5,h6,h7⟩:=NumV.isId_yes h3 hf ho
  rw[h1,h2,h4,h5,h6]
  exact c_law_isIdQ q h7
 |false=>
  have hq:isQ z.b1 z.s1 z.b2 z.s2=false:=by rw[NumV.ok_cells h3];exact ho
  rw[NumV.isId_no h3 ho]
  exact c_law_isIdR z.b1 z.s1 z.b2 z.s2 hs.1 hs.2 hq
end Go.Proofs.YtfijbadahkmhbaaGreatDoor
