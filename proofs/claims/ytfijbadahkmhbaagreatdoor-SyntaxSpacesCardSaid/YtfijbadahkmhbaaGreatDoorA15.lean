/-
  Part 15 (chapter 43): lemmas, walks. Each theorem states its own conditions.
-/
import Derived.Test.YtfijbadahkmhbaaGreatDoorA04
import Derived.Test.YtfijbadahkmhbaaGreatDoorA10
import Derived.Test.YtfijbadahkmhbaaGreatDoorA11
import Derived.Test.YtfijbadahkmhbaaGreatDoorA12
import Derived.Test.YtfijbadahkmhbaaGreatDoorA13
import Derived.Test.YtfijbadahkmhbaaGreatDoorA14
set_option linter.unusedVariables false
set_option linter.unusedSimpArgs false
set_option maxRecDepth 20000
set_option maxHeartbeats 20000000
namespace Go.Proofs.YtfijbadahkmhbaaGreatDoor
open Go Go.RowKit Go.Via
theorem c_list{x:XT}(z:XR x)(H:∀y:XT,y.size<x.size→TexC y)(hk:okX x)(hf:x.fit=true)(hb:(joinC (txtLs x.args)).length≤17179869184):ECall Tryz.prog 69 [gB z.T false] [.slice z.a z.n z.cap] Unit (fun _=> .string (strU (joinC (txtLs x.args)))) (fun _=>[]):=by
 refine⟨by kernel_rfl,fun B w hD hL0=>?_⟩;obtain⟨h1,h2,h3,h4,h5,h6⟩:=z.inv;have hfp:=XT.fit_parts hf;have hk2:=(okX_parts hk).2;have hal:=nodeE_len (okX_parts hk).1;refine cB1 23 Tryz.func69 hL0 ?_;refine A17 ?_;refine El (ι:={i:Nat // i≤x.args.length}) (fun⟨i,hi⟩=>([(0,.slice z.a z.n z.cap),(3,.string (strU (joinC ((txtLs x.args).take i)))),(4,.int .i64 (i:Nat))],[gB z.T false],x.args.length-i)) ⟨0,Nat.zero_le _⟩ ?_ (hL:=Weak.auto);rintro⟨i,hi⟩;(try dsimp only);refine A6 ?_;refine r_know 7 (.int .i64 (x.args.length:Nat)) rfl (by rw[h5]) ?_;refine A3 ?_;refine Cd ?_ ?_<;>intro hb1
 ·have hlt:i<x.args.length:=by have:=of_decide_eq_true hb1;omega
  obtain⟨y,hy⟩:∃y,x.args[i]? =some y:=⟨x.args[i],List.getElem?_eq_getElem hlt⟩;obtain⟨ga,oa,ca,u,hza,hma,hra,hTa,hna⟩:=z.arg hy;have hjs:=joinC_step hy;have hjt:=joinC_take_le x.args (i+1);rw[hjs] at hjt;have hjb:=Nat.le_trans hjt hb;refine A11 ?_;refine Cd ?_ ?_<;>intro hb2
  ·have hi0:0<i:=by have:=of_decide_eq_true hb2;omega
   have hsep:sepS i=[44,32]:=(by unfold sepS;rw[if_neg (by omega)]);rw[hsep] at hjs hjb;refine A2 ?_;refine r_addS (p:=joinC ((txtLs x.args).take i)) (q:=[44,32]) rfl rfl rfl rfl rfl rfl rfl (by simp only[List.length_append,List.length_cons,List.length_nil] at hjb ⊢;omega) ?_;refine A3 ?_;refine at_regionM ?_;refine A3 ?_;refine r_indexAddrG (gg:=ga) (len:=z.n) (cap:=z.cap) (oa+i*7) u28 ti30 rfl rfl (congrArg (fun a=>some (Value.slice a z.n z.cap)) hza) rfl (by omega) (by omega) (by show oa+Int.toNat _*7=_;omega) ?_;refine r_loadT (v:=u.v) 0 (oa+i*7) u.cs rfl rfl rfl z.hT hma hna rfl ti30 hra rfl rfl rfl ?_;refine Gm 0 [] [0] (fun _=>[_]) (by have h:=H y (XT.arg_lt hy) u (okXs_get hk2 hy) (XT.fits_get hfp.2.2 hy) (by simp only[List.length_append,List.length_cons,List.length_nil] at hjb ⊢;omega);rw[hTa] at h;exact h) (fun _=>?_);refine r_addS (p:=joinC ((txtLs x.args).take i)++[44,32]) (q:=txt y 1) rfl rfl rfl rfl rfl rfl rfl (by simp only[List.length_append,List.length_cons,List.length_nil] at hjb ⊢;omega) ?_;refine A6 ?_;refine Ar (((i+1:Nat):Int)) ?_;refine A3 ?_;exact Nl ⟨i+1,hlt⟩ (ht:=⟨rfl,(look_val rfl (congrArg (fun s:Bs8=>Value.string (strU s)) (by rw[hjs]))),rfl,trivial⟩) (hL:=Weak.auto)
  ·have hi0:¬0<i:=by have:=of_decide_eq_false hb2;omega
   have hsep:sepS i=[]:=(by unfold sepS;rw[if_pos (by omega)]);rw[hsep] at hjs hjb;refine A2 ?_;refine at_regionM ?_;refine A3 ?_;refine r_indexAddrG (gg:=ga) (len:=z.n) (cap:=z.cap) (oa+i*7) u28 ti30 rfl rfl (congrArg (fun a=>some (Value.slice a z.n z.cap)) hza) rfl (by omega) (by omega) (by show oa+Int.toNat _*7=_;omega) ?_;refine r_loadT (v:=u.v) 0 (oa+i*7) u.cs rfl rfl rfl z.hT hma hna rfl ti30 hra rfl rfl rfl ?_;refine Gm 0 [] [0] (fun _=>[_]) (by have h:=H y (XT.arg_lt hy) u (okXs_get hk2 hy) (XT.fits_get hfp.2.2 hy) (by simp only[List.length_append,List.length_cons,List.length_nil] at hjb ⊢;omega);rw[hTa] at h;exact h) (fun _=>?_);refine r_addS (p:=joinC ((txtLs x.args).take i)) (q:=txt y 1) rfl rfl rfl rfl rfl rfl rfl (by simp only[List.length_append,List.length_cons,List.length_nil] at hjb ⊢;omega) ?_;refine A6 ?_;refine Ar (((i+1:Nat):Int)) ?_;refine A3 ?_;exact Nl ⟨i+1,hlt⟩ (ht:=⟨rfl,(look_val rfl (congrArg (fun s:Bs8=>Value.string (strU s)) (by rw[hjs];simp))),rfl,trivial⟩) (hL:=Weak.auto)
 ·have hge:i=x.args.length:=by have:=of_decide_eq_false hb1;omega
  have hall:(txtLs x.args).take i=txtLs x.args:=(by rw[hge];exact txtLs_all x.args);refine A12 ?_;refine at_end1 rfl (res_tmp rfl) (fun w hL=>⟨(),congrArg (fun s:Bs8=>Ending.returned (.string (strU s))) (show joinC (txtLs x.args)=joinC ((txtLs x.args).take i) from by rw[hall]).symm,hL.pk []⟩)
theorem c_text_1{x:XT}(z:XR x)(H:∀y:XT,y.size<x.size→TexC y)(hk:okX x)(hf:x.fit=true)(o:Frm)(hmf:mfind x.op=some o)(hop:x.op=1)(hok:x.num.ok=true)(htx:txt x 1=ratS x.num.rat)(hb:(txt x 1).length≤17179869184):ECall Tryz.prog 35 [gB z.T false] [z.v] Unit (fun _=> .string (strU (txt x 1))) (fun _=>[]):=by
 refine⟨by kernel_rfl,fun B w hD hL0=>?_⟩;obtain⟨h1,h2,h3,h4,h5,h6⟩:=z.inv;have hfp:=XT.fit_parts hf;have hk2:=(okX_parts hk).2;have hbl:=hb;rw[htx] at hbl;obtain⟨hq1,hq2⟩:=NumV.rat_ok h3 hfp.2.1 hok;refine cB1 119 Tryz.func35 hL0 ?_;refine A2 ?_;refine Bo [_,_,_,_,_,_,_] 7 (fun g=>[_,⟨some g,30,_,7,true⟩]) (fun g0=>?_);refine A4 ?_;refine at_regionM ?_;refine A2 ?_;refine Kp 7 h1 ?_;refine Gm 0 [] [] (fun _=>[_,_]) (c_law_of x.op) (fun _=>?_);refine r_know 8 (.tuple #[.agg #[.int .i64 (o.1:Nat),.int .i64 (o.2.1:Nat),.int .i64 (o.2.2.1:Nat),.string (strU o.2.2.2)],.bool true]) rfl (by unfold mofV;rw[hmf];rfl) ?_;refine A3 ?_;refine r_alloc [_,_,_,_] 4 (fun g=>[_,_,⟨some g,94,_,4,true⟩]) rfl rfl z94 rfl rfl (fun _=>rfl) (fun g1=>?_);refine So 2 0 [_,_,⟨some g1,94,_,4,true⟩] [_,_,_,_] ?_;refine A9 ?_;refine Kp 13 h1 ?_;refine A1 ?_;refine r_know 14 (.bool true) rfl (by rw[hop];rfl) ?_;refine A7 ?_;refine Ld 1 2 [_,_,_,_] ti27 ?_;refine r_know 16 (Q x.num.rat) rfl hq1 ?_;refine Pc (c_rational_Print x.num.rat hq2) ?_;refine A6 ?_;refine at_end1 rfl (res_tmp rfl) (fun w hL=>⟨(),congrArg (fun s:Bs8=>Ending.returned (.string (strU s))) (htx).symm,hL.pk []⟩)
theorem c_text_3{x:XT}(z:XR x)(H:∀y:XT,y.size<x.size→TexC y)(hk:okX x)(hf:x.fit=true)(o:Frm)(hmf:mfind x.op=some o)(hop:x.op=3)(hok:x.num.ok=true)(htx:txt x 1=sObject++ratS x.num.rat++[41])(hb:(txt x 1).length≤17179869184):ECall Tryz.prog 35 [gB z.T false] [z.v] Unit (fun _=> .string (strU (txt x 1))) (fun _=>[]):=by
 refine⟨by kernel_rfl,fun B w hD hL0=>?_⟩;obtain⟨h1,h2,h3,h4,h5,h6⟩:=z.inv;have hfp:=XT.fit_parts hf;have hk2:=(okX_parts hk).2;have hbl:=hb;rw[htx] at hbl;obtain⟨hq1,hq2⟩:=NumV.rat_ok h3 hfp.2.1 hok;refine cB1 119 Tryz.func35 hL0 ?_;refine A2 ?_;refine Bo [_,_,_,_,_,_,_] 7 (fun g=>[_,⟨some g,30,_,7,true⟩]) (fun g0=>?_);refine A4 ?_;refine at_regionM ?_;refine A2 ?_;refine Kp 7 h1 ?_;refine Gm 0 [] [] (fun _=>[_,_]) (c_law_of x.op) (fun _=>?_);refine r_know 8 (.tuple #[.agg #[.int .i64 (o.1:Nat),.int .i64 (o.2.1:Nat),.int .i64 (o.2.2.1:Nat),.string (strU o.2.2.2)],.bool true]) rfl (by unfold mofV;rw[hmf];rfl) ?_;refine A3 ?_;refine r_alloc [_,_,_,_] 4 (fun g=>[_,_,⟨some g,94,_,4,true⟩]) rfl rfl z94 rfl rfl (fun _=>rfl) (fun g1=>?_);refine So 2 0 [_,_,⟨some g1,94,_,4,true⟩] [_,_,_,_] ?_;refine A9 ?_;refine Kp 13 h1 ?_;refine A1 ?_;refine r_know 14 (.bool false) rfl (by rw[hop];rfl) ?_;refine A8 ?_;refine Kp 20 h1 ?_;refine A1 ?_;refine r_know 21 (.bool true) rfl (by rw[hop];rfl) ?_;refine A7 ?_;refine Ld 1 2 [_,_,_,_] ti27 ?_;refine r_know 23 (Q x.num.rat) rfl hq1 ?_;refine Pc (c_rational_Print x.num.rat hq2) ?_;refine r_addS (p:=sObject) (q:=ratS x.num.rat) rfl rfl rfl rfl rfl rfl rfl (by simp only[List.length_append,List.length_cons,List.length_nil] at hbl ⊢;omega) ?_;refine r_addS (p:=sObject++ratS x.num.rat) (q:=[41]) rfl rfl rfl rfl rfl rfl rfl (by simp only[List.length_append,List.length_cons,List.length_nil] at hbl ⊢;omega) ?_;refine A6 ?_;refine at_end1 rfl (res_tmp rfl) (fun w hL=>⟨(),congrArg (fun s:Bs8=>Ending.returned (.string (strU s))) (htx).symm,hL.pk []⟩)
theorem c_text_4{x:XT}(z:XR x)(H:∀y:XT,y.size<x.size→TexC y)(hk:okX x)(hf:x.fit=true)(o:Frm)(hmf:mfind x.op=some o)(hop:x.op=4)(htx:txt x 1=x.name)(hb:(txt x 1).length≤17179869184):ECall Tryz.prog 35 [gB z.T false] [z.v] Unit (fun _=> .string (strU (txt x 1))) (fun _=>[]):=by
 refine⟨by kernel_rfl,fun B w hD hL0=>?_⟩;obtain⟨h1,h2,h3,h4,h5,h6⟩:=z.inv;have hfp:=XT.fit_parts hf;have hk2:=(okX_parts hk).2;have hbl:=hb;rw[htx] at hbl;refine cB1 119 Tryz.func35 hL0 ?_;refine A2 ?_;refine Bo [_,_,_,_,_,_,_] 7 (fun g=>[_,⟨some g,30,_,7,true⟩]) (fun g0=>?_);refine A4 ?_;refine at_regionM ?_;refine A2 ?_;refine Kp 7 h1 ?_;refine Gm 0 [] [] (fun _=>[_,_]) (c_law_of x.op) (fun _=>?_);refine r_know 8 (.tuple #[.agg #[.int .i64 (o.1:Nat),.int .i64 (o.2.1:Nat),.int .i64 (o.2.2.1:Nat),.string (strU o.2.2.2)],.bool true]) rfl (by unfold mofV;rw[hmf];rfl) ?_;refine A3 ?_;refine r_alloc [_,_,_,_] 4 (fun g=>[_,_,⟨some g,94,_,4,true⟩]) rfl rfl z94 rfl rfl (fun _=>rfl) (fun g1=>?_);refine So 2 0 [_,_,⟨some g1,94,_,4,true⟩] [_,_,_,_] ?_;refine A9 ?_;refine Kp 13 h1 ?_;refine A1 ?_;refine r_know 14 (.bool false) rfl (by rw[hop];rfl) ?_;refine A8 ?_;refine Kp 20 h1 ?_;refine A1 ?_;refine r_know 21 (.bool false) rfl (by rw[hop];rfl) ?_;refine A8 ?_;refine Kp 29 h1 ?_;refine A1 ?_;refine r_know 30 (.bool true) rfl (by rw[hop];rfl) ?_;refine A8 ?_;refine r_know 32 (.string (strU x.name)) rfl (by rw[h2]) ?_;refine A6 ?_;refine at_end1 rfl (res_tmp rfl) (fun w hL=>⟨(),congrArg (fun s:Bs8=>Ending.returned (.string (strU s))) (htx).symm,hL.pk []⟩)
theorem c_text_5{x:XT}(z:XR x)(H:∀y:XT,y.size<x.size→TexC y)(hk:okX x)(hf:x.fit=true)(o:Frm)(hmf:mfind x.op=some o)(hop:x.op=5)(htx:txt x 1=[122,111,110,101,40]++([34]++quoS x.name++[34])++[41])(hb:(txt x 1).length≤17179869184):ECall Tryz.prog 35 [gB z.T false] [z.v] Unit (fun _=> .string (strU (txt x 1))) (fun _=>[]):=by
 refine⟨by kernel_rfl,fun B w hD hL0=>?_⟩;obtain⟨h1,h2,h3,h4,h5,h6⟩:=z.inv;have hfp:=XT.fit_parts hf;have hk2:=(okX_parts hk).2;have hbl:=hb;rw[htx] at hbl;refine cB1 119 Tryz.func35 hL0 ?_;refine A2 ?_;refine Bo [_,_,_,_,_,_,_] 7 (fun g=>[_,⟨some g,30,_,7,true⟩]) (fun g0=>?_);refine A4 ?_;refine at_regionM ?_;refine A2 ?_;refine Kp 7 h1 ?_;refine Gm 0 [] [] (fun _=>[_,_]) (c_law_of x.op) (fun _=>?_);refine r_know 8 (.tuple #[.agg #[.int .i64 (o.1:Nat),.int .i64 (o.2.1:Nat),.int .i64 (o.2.2.1:Nat),.string (strU o.2.2.2)],.bool true]) rfl (by unfold mofV;rw[hmf];rfl) ?_;refine A3 ?_;refine r_alloc [_,_,_,_] 4 (fun g=>[_,_,⟨some g,94,_,4,true⟩]) rfl rfl z94 rfl rfl (fun _=>rfl) (fun g1=>?_);refine So 2 0 [_,_,⟨some g1,94,_,4,true⟩] [_,_,_,_] ?_;refine A9 ?_;refine Kp 13 h1 ?_;refine A1 ?_;refine r_know 14 (.bool false) rfl (by rw[hop];rfl) ?_;refine A8 ?_;refine Kp 20 h1 ?_;refine A1 ?_;refine r_know 21 (.bool false) rfl (by rw[hop];rfl) ?_;refine A8 ?_;refine Kp 29 h1 ?_;refine A1 ?_;refine r_know 30 (.bool false) rfl (by rw[hop];rfl) ?_;refine A8 ?_;refine Kp 35 h1 ?_;refine A1 ?_;refine r_know 36 (.bool true) rfl (by rw[hop];rfl) ?_;refine A8 ?_;refine r_know 38 (.string (strU x.name)) rfl (by rw[h2]) ?_;refine Pc (c_law_quoted x.name hfp.1) ?_;refine r_addS (p:=[122,111,110,101,40]) (q:=[34]++quoS x.name++[34]) rfl rfl rfl rfl rfl rfl rfl (by simp only[List.length_append,List.length_cons,List.length_nil] at hbl ⊢;omega) ?_;refine r_addS (p:=[122,111,110,101,40]++([34]++quoS x.name++[34])) (q:=[41]) rfl rfl rfl rfl rfl rfl rfl (by simp only[List.length_append,List.length_cons,List.length_nil] at hbl ⊢;omega) ?_;refine A6 ?_;refine at_end1 rfl (res_tmp rfl) (fun w hL=>⟨(),congrArg (fun s:Bs8=>Ending.returned (.string (strU s))) (htx).symm,hL.pk []⟩)
theorem c_text_6{x:XT}(z:XR x)(H:∀y:XT,y.size<x.size→TexC y)(hk:okX x)(hf:x.fit=true)(o:Frm)(hmf:mfind x.op=some o)(hop:x.op=6)(htx:txt x 1=[91]++joinC (txtLs x.args)++[93])(hb:(txt x 1).length≤17179869184):ECall Tryz.prog 35 [gB z.T false] [z.v] Unit (fun _=> .string (strU (txt x 1))) (fun _=>[]):=by
 refine⟨by kernel_rfl,fun B w hD hL0=>?_⟩;obtain⟨h1,h2,h3,h4,h5,h6⟩:=z.inv;have hfp:=XT.fit_parts hf;have hk2:=(okX_parts hk).2;have hbl:=hb;rw[htx] at hbl;refine cB1 119 Tryz.func35 hL0 ?_;refine A2 ?_;refine Bo [_,_,_,_,_,_,_] 7 (fun g=>[_,⟨some g,30,_,7,true⟩]) (fun g0=>?_);refine A4 ?_;refine at_regionM ?_;refine A2 ?_;refine Kp 7 h1 ?_;refine Gm 0 [] [] (fun _=>[_,_]) (c_law_of x.op) (fun _=>?_);refine r_know 8 (.tuple #[.agg #[.int .i64 (o.1:Nat),.int .i64 (o.2.1:Nat),.int .i64 (o.2.2.1:Nat),.string (strU o.2.2.2)],.bool true]) rfl (by unfold mofV;rw[hmf];rfl) ?_;refine A3 ?_;refine r_alloc [_,_,_,_] 4 (fun g=>[_,_,⟨some g,94,_,4,true⟩]) rfl rfl z94 rfl rfl (fun _=>rfl) (fun g1=>?_);refine So 2 0 [_,_,⟨some g1,94,_,4,true⟩] [_,_,_,_] ?_;refine A9 ?_;refine Kp 13 h1 ?_;refine A1 ?_;refine r_know 14 (.bool false) rfl (by rw[hop];rfl) ?_;refine A8 ?_;refine Kp 20 h1 ?_;refine A1 ?_;refine r_know 21 (.bool false) rfl (by rw[hop];rfl) ?_;refine A8 ?_;refine Kp 29 h1 ?_;refine A1 ?_;refine r_know 30 (.bool false) rfl (by rw[hop];rfl) ?_;refine A8 ?_;refine Kp 35 h1 ?_;refine A1 ?_;refine r_know 36 (.bool false) rfl (by rw[hop];rfl) ?_;refine A8 ?_;refine Kp 44 h1 ?_;refine A1 ?_;refine r_know 45 (.bool true) rfl (by rw[hop];rfl) ?_;refine A8 ?_;refine r_scall0 [.slice z.a z.n z.cap] [0] rfl rfl rfl (ECall.toS (c_list z H hk hf (by simp only[List.length_append,List.length_cons,List.length_nil] at hbl ⊢;omega))) ⟨⟨_,rfl,Blk.le_refl _⟩,trivial⟩ rfl ?_;refine r_addS (p:=[91]) (q:=joinC (txtLs x.args)) rfl rfl rfl rfl rfl rfl rfl (by simp only[List.length_append,List.length_cons,List.length_nil] at hbl ⊢;omega) ?_;refine r_addS (p:=[91]++joinC (txtLs x.args)) (q:=[93]) rfl rfl rfl rfl rfl rfl rfl (by simp only[List.length_append,List.length_cons,List.length_nil] at hbl ⊢;omega) ?_;refine A6 ?_;refine at_end1 rfl (res_tmp rfl) (fun w hL=>⟨(),congrArg (fun s:Bs8=>Ending.returned (.string (strU s))) (htx).symm,hL.pk []⟩)
theorem c_text_25{x:XT}(z:XR x)(H:∀y:XT,y.size<x.size→TexC y)(hk:okX x)(hf:x.fit=true)(o:Frm)(hmf:mfind x.op=some o)(hop:x.op=25){y0:XT}(hy0:x.args[0]? =some y0)(htx:txt x 1=sNot++txt y0 3)(hb:(txt x 1).length≤17179869184):ECall Tryz.prog 35 [gB z.T false] [z.v] Unit (fun _=> .string (strU (txt x 1))) (fun _=>[]):=by
 refine⟨by kernel_rfl,fun B w hD hL0=>?_⟩;obtain⟨h1,h2,h3,h4,h5,h6⟩:=z.inv;have hfp:=XT.fit_parts hf;have hk2:=(okX_parts hk).2;have hbl:=hb;rw[htx] at hbl;have hl0:=(List.getElem?_eq_some_iff.1 hy0).1;obtain⟨ga,oa,ca,v1,hza,hma,hra,hTa,hna⟩:=z.arg hy0;refine cB1 119 Tryz.func35 hL0 ?_;refine A2 ?_;refine Bo [_,_,_,_,_,_,_] 7 (fun g=>[_,⟨some g,30,_,7,true⟩]) (fun g0=>?_);refine A4 ?_;refine at_regionM ?_;refine A2 ?_;refine Kp 7 h1 ?_;refine Gm 0 [] [] (fun _=>[_,_]) (c_law_of x.op) (fun _=>?_);refine r_know 8 (.tuple #[.agg #[.int .i64 (o.1:Nat),.int .i64 (o.2.1:Nat),.int .i64 (o.2.2.1:Nat),.string (strU o.2.2.2)],.bool true]) rfl (by unfold mofV;rw[hmf];rfl) ?_;refine A3 ?_;refine r_alloc [_,_,_,_] 4 (fun g=>[_,_,⟨some g,94,_,4,true⟩]) rfl rfl z94 rfl rfl (fun _=>rfl) (fun g1=>?_);refine So 2 0 [_,_,⟨some g1,94,_,4,true⟩] [_,_,_,_] ?_;refine A9 ?_;refine Kp 13 h1 ?_;refine A1 ?_;refine r_know 14 (.bool false) rfl (by rw[hop];rfl) ?_;refine A8 ?_;refine Kp 20 h1 ?_;refine A1 ?_;refine r_know 21 (.bool false) rfl (by rw[hop];rfl) ?_;refine A8 ?_;refine Kp 29 h1 ?_;refine A1 ?_;refine r_know 30 (.bool false) rfl (by rw[hop];rfl) ?_;refine A8 ?_;refine Kp 35 h1 ?_;refine A1 ?_;refine r_know 36 (.bool false) rfl (by rw[hop];rfl) ?_;refine A8 ?_;refine Kp 44 h1 ?_;refine A1 ?_;refine r_know 45 (.bool false) rfl (by rw[hop];rfl) ?_;refine A8 ?_;refine Kp 53 h1 ?_;refine A1 ?_;refine r_know 54 (.bool true) rfl (by rw[hop];rfl) ?_;refine A8 ?_;refine r_indexAddrG (gg:=ga) (len:=z.n) (cap:=z.cap) (oa+0*7) u28 ti30 rfl rfl (congrArg (fun a=>some (Value.slice a z.n z.cap)) hza) rfl (by omega) (by omega) (by show oa+Int.toNat _*7=_;omega) ?_;refine r_loadT (v:=v1.v) 0 (oa+0*7) v1.cs rfl rfl rfl z.hT hma hna rfl ti30 hra rfl rfl rfl ?_;have hcpy0:=c_part v1 (H y0 (XT.arg_lt hy0)) (okXs_get hk2 hy0) (XT.fits_get hfp.2.2 hy0) (3) (by omega) (by simp only[List.length_append,List.length_cons,List.length_nil] at hbl ⊢;omega);rw[hTa] at hcpy0;refine r_scall0 [v1.v,.int .i64 (3:Nat)] [0] rfl rfl rfl (ECall.toS (hcpy0)) ⟨⟨_,rfl,Blk.le_refl _⟩,trivial⟩ rfl ?_;refine r_addS (p:=sNot) (q:=txt y0 3) rfl rfl rfl rfl rfl rfl rfl (by simp only[List.length_append,List.length_cons,List.length_nil] at hbl ⊢;omega) ?_;refine A6 ?_;refine at_end1 rfl (res_tmp rfl) (fun w hL=>⟨(),congrArg (fun s:Bs8=>Ending.returned (.string (strU s))) (htx).symm,hL.pk []⟩)
theorem c_text_f{x:XT}(z:XR x)(H:∀y:XT,y.size<x.size→TexC y)(hk:okX x)(hf:x.fit=true)(o:Frm)(hmf:mfind x.op=some o)(hop1:x.op≠1)(hop3:x.op≠3)(hop4:x.op≠4)(hop5:x.op≠5)(hop6:x.op≠6)(hop25:x.op≠25)(h08:o.2.2.1=0∨o.2.2.1=8)(htx:txt x 1=o.2.2.2++[40]++joinC (txtLs x.args)++[41])(hb:(txt x 1).length≤17179869184):ECall Tryz.prog 35 [gB z.T false] [z.v] Unit (fun _=> .string (strU (txt x 1))) (fun _=>[]):=by
 refine⟨by kernel_rfl,fun B w hD hL0=>?_⟩;obtain⟨h1,h2,h3,h4,h5,h6⟩:=z.inv;have hfp:=XT.fit_parts hf;have hk2:=(okX_parts hk).2;have hbl:=hb;rw[htx] at hbl;refine cB1 119 Tryz.func35 hL0 ?_;refine A2 ?_;refine Bo [_,_,_,_,_,_,_] 7 (fun g=>[_,⟨some g,30,_,7,true⟩]) (fun g0=>?_);refine A4 ?_;refine at_regionM ?_;refine A2 ?_;refine Kp 7 h1 ?_;refine Gm 0 [] [] (fun _=>[_,_]) (c_law_of x.op) (fun _=>?_);refine r_know 8 (.tuple #[.agg #[.int .i64 (o.1:Nat),.int .i64 (o.2.1:Nat),.int .i64 (o.2.2.1:Nat),.string (strU o.2.2.2)],.bool true]) rfl (by unfold mofV;rw[hmf];rfl) ?_;refine A3 ?_;refine r_alloc [_,_,_,_] 4 (fun g=>[_,_,⟨some g,94,_,4,true⟩]) rfl rfl z94 rfl rfl (fun _=>rfl) (fun g1=>?_);refine So 2 0 [_,_,⟨some g1,94,_,4,true⟩] [_,_,_,_] ?_;refine A9 ?_;refine Kp 13 h1 ?_;refine A1 ?_;refine r_know 14 (.bool false) rfl (congrArg Value.bool (by simpa using hop1)) ?_;refine A8 ?_;refine Kp 20 h1 ?_;refine A1 ?_;refine r_know 21 (.bool false) rfl (congrArg Value.bool (by simpa using hop3)) ?_;refine A8 ?_;refine Kp 29 h1 ?_;refine A1 ?_;refine r_know 30 (.bool false) rfl (congrArg Value.bool (by simpa using hop4)) ?_;refine A8 ?_;refine Kp 35 h1 ?_;refine A1 ?_;refine r_know 36 (.bool false) rfl (congrArg Value.bool (by simpa using hop5)) ?_;refine A8 ?_;refine Kp 44 h1 ?_;refine A1 ?_;refine r_know 45 (.bool false) rfl (congrArg Value.bool (by simpa using hop6)) ?_;refine A8 ?_;refine Kp 53 h1 ?_;refine A1 ?_;refine r_know 54 (.bool false) rfl (congrArg Value.bool (by simpa using hop25)) ?_;refine A10 ?_;refine Rs 65 ?_ ?_<;>intro hb0
 ·have hl0:o.2.2.1=0:=by have hh:=hb0;have hh:=eq_of_beq hh;omega
  refine A9 ?_;refine at_drawnI [] mixed (by kernel_rfl) (by kernel_rfl) ?_;refine A2 ?_;refine r_addS (p:=o.2.2.2) (q:=[40]) rfl rfl rfl rfl rfl rfl rfl (by simp only[List.length_append,List.length_cons,List.length_nil] at hbl ⊢;omega) ?_;refine A2 ?_;refine r_scall0 [.slice z.a z.n z.cap] [0] rfl rfl rfl (ECall.toS (c_list z H hk hf (by simp only[List.length_append,List.length_cons,List.length_nil] at hbl ⊢;omega))) ⟨⟨_,rfl,Blk.le_refl _⟩,trivial⟩ rfl ?_;refine r_addS (p:=o.2.2.2++[40]) (q:=joinC (txtLs x.args)) rfl rfl rfl rfl rfl rfl rfl (by simp only[List.length_append,List.length_cons,List.length_nil] at hbl ⊢;omega) ?_;refine r_addS (p:=o.2.2.2++[40]++joinC (txtLs x.args)) (q:=[41]) rfl rfl rfl rfl rfl rfl rfl (by simp only[List.length_append,List.length_cons,List.length_nil] at hbl ⊢;omega) ?_;refine A6 ?_;refine at_end1 rfl (res_tmp rfl) (fun w hL=>⟨(),congrArg (fun s:Bs8=>Ending.returned (.string (strU s))) (htx).symm,hL.pk []⟩)
 ·have hl0:o.2.2.1≠0:=by have hh:=hb0;have hh:=ne_of_beq_false hh;omega
  refine A3 ?_;refine r_know 68 (.bool true) rfl (congrArg Value.bool (beq_iff_eq.2 (by omega))) ?_;refine A6 ?_;refine at_drawnI [] mixed (by kernel_rfl) (by kernel_rfl) ?_;refine A2 ?_;refine r_addS (p:=o.2.2.2) (q:=[40]) rfl rfl rfl rfl rfl rfl rfl (by simp only[List.length_append,List.length_cons,List.length_nil] at hbl ⊢;omega) ?_;refine A2 ?_;refine r_scall0 [.slice z.a z.n z.cap] [0] rfl rfl rfl (ECall.toS (c_list z H hk hf (by simp only[List.length_append,List.length_cons,List.length_nil] at hbl ⊢;omega))) ⟨⟨_,rfl,Blk.le_refl _⟩,trivial⟩ rfl ?_;refine r_addS (p:=o.2.2.2++[40]) (q:=joinC (txtLs x.args)) rfl rfl rfl rfl rfl rfl rfl (by simp only[List.length_append,List.length_cons,List.length_nil] at hbl ⊢;omega) ?_;refine r_addS (p:=o.2.2.2++[40]++joinC (txtLs x.args)) (q:=[41]) rfl rfl rfl rfl rfl rfl rfl (by simp only[List.length_append,List.length_cons,List.length_nil] at hbl ⊢;omega) ?_;refine A6 ?_;refine at_end1 rfl (res_tmp rfl) (fun w hL=>⟨(),congrArg (fun s:Bs8=>Ending.returned (.string (strU s))) (htx).symm,hL.pk []⟩)
theorem c_text_b4{x:XT}(z:XR x)(H:∀y:XT,y.size<x.size→TexC y)(hk:okX x)(hf:x.fit=true)(o:Frm)(hmf:mfind x.op=some o)(hop1:x.op≠1)(hop3:x.op≠3)(hop4:x.op≠4)(hop5:x.op≠5)(hop6:x.op≠6)(hop25:x.op≠25)(h4l:o.2.2.1=4){y0:XT}(hy0:x.args[0]? =some y0){y1:XT}(hy1:x.args[1]? =some y1)(htx:txt x 1=txt y0 5++[32]++o.2.2.2++[32]++txt y1 5)(hb:(txt x 1).length≤17179869184):ECall Tryz.prog 35 [gB z.T false] [z.v] Unit (fun _=> .string (strU (txt x 1))) (fun _=>[]):=by
 refine⟨by kernel_rfl,fun B w hD hL0=>?_⟩;obtain⟨h1,h2,h3,h4,h5,h6⟩:=z.inv;have hfp:=XT.fit_parts hf;have hk2:=(okX_parts hk).2;have hbl:=hb;rw[htx] at hbl;have hl0:=(List.getElem?_eq_some_iff.1 hy0).1;obtain⟨ga,oa,ca,v1,hza,hma,hra,hTa,hna⟩:=z.arg hy0;have hl1:=(List.getElem?_eq_some_iff.1 hy1).1;obtain⟨gb,ob,cb,v2,hzb,hmb,hrb,hTb,hnb⟩:=z.arg hy1;refine cB1 119 Tryz.func35 hL0 ?_;refine A2 ?_;refine Bo [_,_,_,_,_,_,_] 7 (fun g=>[_,⟨some g,30,_,7,true⟩]) (fun g0=>?_);refine A4 ?_;refine at_regionM ?_;refine A2 ?_;refine Kp 7 h1 ?_;refine Gm 0 [] [] (fun _=>[_,_]) (c_law_of x.op) (fun _=>?_);refine r_know 8 (.tuple #[.agg #[.int .i64 (o.1:Nat),.int .i64 (o.2.1:Nat),.int .i64 (o.2.2.1:Nat),.string (strU o.2.2.2)],.bool true]) rfl (by unfold mofV;rw[hmf];rfl) ?_;refine A3 ?_;refine r_alloc [_,_,_,_] 4 (fun g=>[_,_,⟨some g,94,_,4,true⟩]) rfl rfl z94 rfl rfl (fun _=>rfl) (fun g1=>?_);refine So 2 0 [_,_,⟨some g1,94,_,4,true⟩] [_,_,_,_] ?_;refine A9 ?_;refine Kp 13 h1 ?_;refine A1 ?_;refine r_know 14 (.bool false) rfl (congrArg Value.bool (by simpa using hop1)) ?_;refine A8 ?_;refine Kp 20 h1 ?_;refine A1 ?_;refine r_know 21 (.bool false) rfl (congrArg Value.bool (by simpa using hop3)) ?_;refine A8 ?_;refine Kp 29 h1 ?_;refine A1 ?_;refine r_know 30 (.bool false) rfl (congrArg Value.bool (by simpa using hop4)) ?_;refine A8 ?_;refine Kp 35 h1 ?_;refine A1 ?_;refine r_know 36 (.bool false) rfl (congrArg Value.bool (by simpa using hop5)) ?_;refine A8 ?_;refine Kp 44 h1 ?_;refine A1 ?_;refine r_know 45 (.bool false) rfl (congrArg Value.bool (by simpa using hop6)) ?_;refine A8 ?_;refine Kp 53 h1 ?_;refine A1 ?_;refine r_know 54 (.bool false) rfl (congrArg Value.bool (by simpa using hop25)) ?_;refine A9 ?_;refine r_know 64 (.bool false) rfl (congrArg Value.bool (beq_eq_false_iff_ne.2 (by omega))) ?_;refine A4 ?_;refine r_know 68 (.bool false) rfl (congrArg Value.bool (beq_eq_false_iff_ne.2 (by omega))) ?_;refine A10 ?_;refine r_know 81 (.bool true) rfl (congrArg Value.bool (beq_iff_eq.2 (by omega))) ?_;refine A5 ?_;refine at_drawn (l':=[⟨_,_,_,_,_,_⟩,⟨_,_,_,_,_,_⟩,⟨_,_,_,_,_,_⟩,⟨_,_,_,_,_,_⟩,⟨_,_,_,_,_,_⟩,⟨_,_,_,_,_,_⟩,⟨_,_,_,_,_,_⟩,⟨_,_,_,_,_,_⟩,⟨_,_,_,_,_,_⟩,⟨_,_,_,_,_,_⟩,⟨_,_,_,_,_,_⟩,⟨_,_,_,_,_,_⟩,⟨_,_,_,_,_,_⟩,⟨_,_,_,_,_,_⟩,⟨_,_,_,_,_,_⟩,⟨_,_,_,_,_,_⟩,⟨_,_,_,_,_,_⟩]) [] [0,1,2,3,6,7,10,11,12,13,4,5,8,9,14,15,16] mixed (by kernel_rfl) rfl (by kernel_rfl) ?_;refine A2 ?_;refine r_indexAddrG (gg:=ga) (len:=z.n) (cap:=z.cap) (oa+0*7) u28 ti30 rfl rfl (congrArg (fun a=>some (Value.slice a z.n z.cap)) hza) rfl (by omega) (by omega) (by show oa+Int.toNat _*7=_;omega) ?_;refine r_loadT (v:=v1.v) 0 (oa+0*7) v1.cs rfl rfl rfl z.hT hma hna rfl ti30 hra rfl rfl rfl ?_;refine A4 ?_;refine r_indexAddrG (gg:=gb) (len:=z.n) (cap:=z.cap) (ob+1*7) u28 ti30 rfl rfl (congrArg (fun a=>some (Value.slice a z.n z.cap)) hzb) rfl (by omega) (by omega) (by show ob+Int.toNat _*7=_;omega) ?_;refine r_loadT (v:=v2.v) 0 (ob+1*7) v2.cs rfl rfl rfl z.hT hmb hnb rfl ti30 hrb rfl rfl rfl ?_;have hcpy0:=c_part v1 (H y0 (XT.arg_lt hy0)) (okXs_get hk2 hy0) (XT.fits_get hfp.2.2 hy0) (5) (by omega) (by simp only[List.length_append,List.length_cons,List.length_nil] at hbl ⊢;omega);rw[hTa] at hcpy0;refine r_scall0 [v1.v,.int .i64 (5:Nat)] [0] rfl rfl rfl (ECall.toS (hcpy0)) ⟨⟨_,rfl,Blk.le_refl _⟩,trivial⟩ rfl ?_;refine r_addS (p:=txt y0 5) (q:=[32]) rfl rfl rfl rfl rfl rfl rfl (by simp only[List.length_append,List.length_cons,List.length_nil] at hbl ⊢;omega) ?_;refine r_addS (p:=txt y0 5++[32]) (q:=o.2.2.2) rfl rfl rfl rfl rfl rfl rfl (by simp only[List.length_append,List.length_cons,List.length_nil] at hbl ⊢;omega) ?_;refine r_addS (p:=txt y0 5++[32]++o.2.2.2) (q:=[32]) rfl rfl rfl rfl rfl rfl rfl (by simp only[List.length_append,List.length_cons,List.length_nil] at hbl ⊢;omega) ?_;have hcpy1:=c_part v2 (H y1 (XT.arg_lt hy1)) (okXs_get hk2 hy1) (XT.fits_get hfp.2.2 hy1) (5) (by omega) (by simp only[List.length_append,List.length_cons,List.length_nil] at hbl ⊢;omega);rw[hTb] at hcpy1;refine r_scall0 [v2.v,.int .i64 (5:Nat)] [0] rfl rfl rfl (ECall.toS (hcpy1)) ⟨⟨_,rfl,Blk.le_refl _⟩,trivial⟩ rfl ?_;refine r_addS (p:=txt y0 5++[32]++o.2.2.2++[32]) (q:=txt y1 5) rfl rfl rfl rfl rfl rfl rfl (by simp only[List.length_append,List.length_cons,List.length_nil] at hbl ⊢;omega) ?_;refine A6 ?_;refine at_end1 rfl (res_tmp rfl) (fun w hL=>⟨(),congrArg (fun s:Bs8=>Ending.returned (.string (strU s))) (htx).symm,hL.pk []⟩)
theorem c_text_b{x:XT}(z:XR x)(H:∀y:XT,y.size<x.size→TexC y)(hk:okX x)(hf:x.fit=true)(o:Frm)(hmf:mfind x.op=some o)(hop1:x.op≠1)(hop3:x.op≠3)(hop4:x.op≠4)(hop5:x.op≠5)(hop6:x.op≠6)(hop25:x.op≠25)(h4l:o.2.2.1≠4)(h1l:1≤o.2.2.1)(h7l:o.2.2.1≤7){y0:XT}(hy0:x.args[0]? =some y0){y1:XT}(hy1:x.args[1]? =some y1)(htx:txt x 1=txt y0 o.2.2.1++[32]++o.2.2.2++[32]++txt y1 (o.2.2.1+1))(hb:(txt x 1).length≤17179869184):ECall Tryz.prog 35 [gB z.T false] [z.v] Unit (fun _=> .string (strU (txt x 1))) (fun _=>[]):=by
 refine⟨by kernel_rfl,fun B w hD hL0=>?_⟩;obtain⟨h1,h2,h3,h4,h5,h6⟩:=z.inv;have hfp:=XT.fit_parts hf;have hk2:=(okX_parts hk).2;have hbl:=hb;rw[htx] at hbl;have hl0:=(List.getElem?_eq_some_iff.1 hy0).1;obtain⟨ga,oa,ca,v1,hza,hma,hra,hTa,hna⟩:=z.arg hy0;have hl1:=(List.getElem?_eq_some_iff.1 hy1).1;obtain⟨gb,ob,cb,v2,hzb,hmb,hrb,hTb,hnb⟩:=z.arg hy1;refine cB1 119 Tryz.func35 hL0 ?_;refine A2 ?_;refine Bo [_,_,_,_,_,_,_] 7 (fun g=>[_,⟨some g,30,_,7,true⟩]) (fun g0=>?_);refine A4 ?_;refine at_regionM ?_;refine A2 ?_;refine Kp 7 h1 ?_;refine Gm 0 [] [] (fun _=>[_,_]) (c_law_of x.op) (fun _=>?_);refine r_know 8 (.tuple #[.agg #[.int .i64 (o.1:Nat),.int .i64 (o.2.1:Nat),.int .i64 (o.2.2.1:Nat),.string (strU o.2.2.2)],.bool true]) rfl (by unfold mofV;rw[hmf];rfl) ?_;refine A3 ?_;refine r_alloc [_,_,_,_] 4 (fun g=>[_,_,⟨some g,94,_,4,true⟩]) rfl rfl z94 rfl rfl (fun _=>rfl) (fun g1=>?_);refine So 2 0 [_,_,⟨some g1,94,_,4,true⟩] [_,_,_,_] ?_;refine A9 ?_;refine Kp 13 h1 ?_;refine A1 ?_;refine r_know 14 (.bool false) rfl (congrArg Value.bool (by simpa using hop1)) ?_;refine A8 ?_;refine Kp 20 h1 ?_;refine A1 ?_;refine r_know 21 (.bool false) rfl (congrArg Value.bool (by simpa using hop3)) ?_;refine A8 ?_;refine Kp 29 h1 ?_;refine A1 ?_;refine r_know 30 (.bool false) rfl (congrArg Value.bool (by simpa using hop4)) ?_;refine A8 ?_;refine Kp 35 h1 ?_;refine A1 ?_;refine r_know 36 (.bool false) rfl (congrArg Value.bool (by simpa using hop5)) ?_;refine A8 ?_;refine Kp 44 h1 ?_;refine A1 ?_;refine r_know 45 (.bool false) rfl (congrArg Value.bool (by simpa using hop6)) ?_;refine A8 ?_;refine Kp 53 h1 ?_;refine A1 ?_;refine r_know 54 (.bool false) rfl (congrArg Value.bool (by simpa using hop25)) ?_;refine A9 ?_;refine r_know 64 (.bool false) rfl (congrArg Value.bool (beq_eq_false_iff_ne.2 (by omega))) ?_;refine A4 ?_;refine r_know 68 (.bool false) rfl (congrArg Value.bool (beq_eq_false_iff_ne.2 (by omega))) ?_;refine A10 ?_;refine r_know 81 (.bool false) rfl (congrArg Value.bool (beq_eq_false_iff_ne.2 (by omega))) ?_;refine A8 ?_;refine at_drawn (l':=[⟨_,_,_,_,_,_⟩,⟨_,_,_,_,_,_⟩,⟨_,_,_,_,_,_⟩,⟨_,_,_,_,_,_⟩,⟨_,_,_,_,_,_⟩,⟨_,_,_,_,_,_⟩,⟨_,_,_,_,_,_⟩,⟨_,_,_,_,_,_⟩,⟨_,_,_,_,_,_⟩,⟨_,_,_,_,_,_⟩,⟨_,_,_,_,_,_⟩,⟨_,_,_,_,_,_⟩,⟨_,_,_,_,_,_⟩,⟨_,_,_,_,_,_⟩,⟨_,_,_,_,_,_⟩,⟨_,_,_,_,_,_⟩,⟨_,_,_,_,_,_⟩,⟨_,_,_,_,_,_⟩,⟨_,_,_,_,_,_⟩,⟨_,_,_,_,_,_⟩,⟨_,_,_,_,_,_⟩,⟨_,_,_,_,_,_⟩]) [] [0,1,2,3,4,5,8,9,12,13,14,15,16,17,18,6,7,10,11,19,20,21] mixed (drawnM [0,1,3,7,0,16,63,127,0,256,1023,2047,0,4096,12288,28672,0,65536,196608,520319,1048575,2097151] (by kernel_rfl)) rfl (by kernel_rfl) ?_;refine A2 ?_;refine r_indexAddrG (gg:=ga) (len:=z.n) (cap:=z.cap) (oa+0*7) u28 ti30 rfl rfl (congrArg (fun a=>some (Value.slice a z.n z.cap)) hza) rfl (by omega) (by omega) (by show oa+Int.toNat _*7=_;omega) ?_;refine r_loadT (v:=v1.v) 0 (oa+0*7) v1.cs rfl rfl rfl z.hT hma hna rfl ti30 hra rfl rfl rfl ?_;refine A6 ?_;refine r_indexAddrG (gg:=gb) (len:=z.n) (cap:=z.cap) (ob+1*7) u28 ti30 rfl rfl (congrArg (fun a=>some (Value.slice a z.n z.cap)) hzb) rfl (by omega) (by omega) (by show ob+Int.toNat _*7=_;omega) ?_;refine r_loadT (v:=v2.v) 0 (ob+1*7) v2.cs rfl rfl rfl z.hT hmb hnb rfl ti30 hrb rfl rfl rfl ?_;refine A2 ?_;refine Ar (((o.2.2.1+1:Nat):Int)) ?_;have hcpy0:=c_part v1 (H y0 (XT.arg_lt hy0)) (okXs_get hk2 hy0) (XT.fits_get hfp.2.2 hy0) (o.2.2.1) (by omega) (by simp only[List.length_append,List.length_cons,List.length_nil] at hbl ⊢;omega);rw[hTa] at hcpy0;refine r_scall0 [v1.v,.int .i64 (o.2.2.1:Nat)] [0] rfl rfl rfl (ECall.toS (hcpy0)) ⟨⟨_,rfl,Blk.le_refl _⟩,trivial⟩ rfl ?_;refine r_addS (p:=txt y0 o.2.2.1) (q:=[32]) rfl rfl rfl rfl rfl rfl rfl (by simp only[List.length_append,List.length_cons,List.length_nil] at hbl ⊢;omega) ?_;refine r_addS (p:=txt y0 o.2.2.1++[32]) (q:=o.2.2.2) rfl rfl rfl rfl rfl rfl rfl (by simp only[List.length_append,List.length_cons,List.length_nil] at hbl ⊢;omega) ?_;refine r_addS (p:=txt y0 o.2.2.1++[32]++o.2.2.2) (q:=[32]) rfl rfl rfl rfl rfl rfl rfl (by simp only[List.length_append,List.length_cons,List.length_nil] at hbl ⊢;omega) ?_;have hcpy1:=c_part v2 (H y1 (XT.arg_lt hy1)) (okXs_get hk2 hy1) (XT.fits_get hfp.2.2 hy1) ((o.2.2.1+1)) (by omega) (by simp only[List.length_append,List.length_cons,List.length_nil] at hbl ⊢;omega);rw[hTb] at hcpy1;refine r_scall0 [v2.v,.int .i64 ((o.2.2.1+1):Nat)] [0] rfl rfl rfl (ECall.toS (hcpy1)) ⟨⟨_,rfl,Blk.le_refl _⟩,trivial⟩ rfl ?_;refine r_addS (p:=txt y0 o.2.2.1++[32]++o.2.2.2++[32]) (q:=txt y1 (o.2.2.1+1)) rfl rfl rfl rfl rfl rfl rfl (by simp only[List.length_append,List.length_cons,List.length_nil] at hbl ⊢;omega) ?_;refine A4 ?_;refine at_end1 rfl (res_tmp rfl) (fun w hL=>⟨(),congrArg (fun s:Bs8=>Ending.returned (.string (strU s))) (htx).symm,hL.pk []⟩)
theorem frm25:mfind 25=some (25,1,3,[110,111,116]):=by decide+kernel
theorem frm3:∀o∈frmT,o.2.2.1=3→o.1=25:=by decide+kernel
theorem c_text(x:XT)(z:XR x)(hk:okX x)(hf:x.fit=true)(hb:(txt x 1).length≤17179869184):
 ECall Tryz.prog 35 [gB z.T false] [z.v] Unit (fun _=> .string (strU (txt x 1))) (fun _=>[]):=by
 refine byS (p:=TexC) (fun x H z hk hf hb=>?_) x z hk hf hb
 have hn:=(okX_parts hk).1
 obtain⟨o,ho⟩:=mfind_ok hn
 have hnum:=nodeE_num hn
 by_cases h1:x.op=1
 ·exact c_text_1 z H hk hf o ho h1 (hnum.1 h1) (by cases x with|mk op nm u l=>obtain rfl:op=1:=h1;rfl) hb
 by_cases h3:x.op=3
 ·exact c_text_3 z H hk hf o ho h3 (hnum.2 h3) (by cases x with|mk op nm u l=>obtain rfl:op=3:=h3;rfl) hb
 by_cases h4:x.op=4
 ·exact c_text_4 z H hk hf o ho h4 (by cases x with|mk op nm u l=>obtain rfl:op=4:=h4;rfl) hb
 by_cases h5:x.op=5
 ·exact c_text_5 z H hk hf o ho h5 (by cases x with|mk op nm u l=>obtain rfl:op=5:=h5;show sZone++quoS nm++[34,41]=_;simp[sZone,XT.name]) hb
 by_cases h6:x.op=6
 ·exact c_text_6 z H hk hf o ho h6 (by cases x with|mk op nm u l=>obtain rfl:op=6:=h6;rfl) hb
 have hp:=frm_of ho
 have hm:=List.mem_of_find?_eq_some ho
 rcases frm_level o hm with⟨q1,q2⟩|⟨q1,q2,q3⟩
 ·have h25:x.op≠25:=fun h=>by rw[h,frm25] at ho;cases ho;exact absurd q2 (by decide)
  exact c_text_f z H hk hf o ho h1 h3 h4 h5 h6 h25 q2 (txt_call ho q2 h1 h3 h4 h5 h6) hb
 ·rw[hp] at q1
  have e1:=txt_op q1 1
  rw[if_neg (by show¬o.2.2.1<1;omega)] at e1
  have ha:=op_args hn q1
  by_cases hl3:o.2.2.1=3
  ·have h25:x.op=25:=by rw[←hp,frm3 o hm hl3];rfl
   have hlen:x.args.length=1:=ha.1 hl3
   obtain⟨y0,hy0⟩:∃y,x.args[0]? =some y:=⟨x.args[0]'(by omega),List.getElem?_eq_getElem _⟩
   refine c_text_25 z H hk hf o ho h25 hy0 ?_ hb
   rw[e1,inS,if_pos hl3,txtAt_get 3 hy0]
  ·have h25:x.op≠25:=fun h=>by rw[h,frm25] at ho;cases ho;exact hl3 rfl
   have hlen:x.args.length=2:=ha.2 hl3
   obtain⟨y0,hy0⟩:∃y,x.args[0]? =some y:=⟨x.args[0]'(by omega),List.getElem?_eq_getElem _⟩
   obtain⟨y1,hy1⟩:∃y,x.args[1]? =some y:=⟨x.args[1]'(by omega),List.getElem?_eq_getElem _⟩
   rw[inS,if_neg hl3,txtAt_get _ hy0,txtAt_get _ hy1] at e1
   by_cases hl4:o.2.2.1=4
   ·refine c_text_b4 z H hk hf o ho h1 h3 h4 h5 h6 h25 hl4 hy0 hy1 ?_ hb
    rw[e1,if_pos hl4]
    show txt y0 5++([32]++o.2.2.2++[32])++txt y1 (o.2.2.1+1)=_
    rw[hl4];simp
   ·refine c_text_b z H hk hf o ho h1 h3 h4 h5 h6 h25 hl4 q2 q3 hy0 hy1 ?_ hb
    rw[e1,if_neg hl4]
    show txt y0 o.2.2.1++([32]++o.2.2.2++[32])++txt y1 (o.2.2.1+1)=_
    simp
end Go.Proofs.YtfijbadahkmhbaaGreatDoor
namespace Go.Via
open Go Go.RowKit
def NumV.parts:NumV→Bool×ByteArray×Bool×ByteArray
 | .q r=>(decide (r.num<0),mag r.num.natAbs,false,dm r)
 | .raw b1 s1 b2 s2=>(b1,s1,b2,s2)
theorem NumV.parts_cells{u:NumV}{b1 b2:Bool}{s1 s2:ByteArray}(h:u.cells=[.bool b1,.string s1,.bool b2,.string s2]):u.parts=(b1,s1,b2,s2):=by
 cases u with
 |q r=>obtain⟨rfl,rfl,rfl,rfl⟩:=NumV.of_q h;rfl
 |raw c1 t1 c2 t2=>obtain⟨rfl,rfl,rfl,rfl⟩:=NumV.of_raw h;rfl
def numE(a b:NumV):Bool:=(a.parts.1==b.parts.1)&&((a.parts.2.1==b.parts.2.1)&&((a.parts.2.2.1==b.parts.2.2.1)&&(a.parts.2.2.2==b.parts.2.2.2)))
theorem numE_cells{u v:NumV}{b1 b2 c1 c2:Bool}{s1 s2 t1 t2:ByteArray}(h:u.cells=[.bool b1,.string s1,.bool b2,.string s2])(k:v.cells=[.bool c1,.string t1,.bool c2,.string t2]):
 ((b1==c1)&&((s1==t1)&&((b2==c2)&&(s2==t2))))=numE u v:=by
 unfold numE
 rw[NumV.parts_cells h,NumV.parts_cells k]
theorem numE_refl(u:NumV):numE u u=true:=by
 unfold numE
 simp[bb_self]
mutual
def sameX:XT→XT→Bool
 | .mk o n u l,.mk o' n' u' l'=>decide (o=o')&&((n==n')&&(numE u u'&&sames l l'))
def sames:List XT→List XT→Bool
 |[],[]=>true
 |x::l,y::m=>sameX x y&&sames l m
 |[],_::_=>false
 |_::_,[]=>false
end
theorem sameX_eq(x y:XT):sameX x y=(decide (x.op=y.op)&&((x.name==y.name)&&(numE x.num y.num&&sames x.args y.args))):=by
 cases x;cases y;rw[sameX];rfl
theorem sames_len:∀{l m:List XT},l.length≠m.length→sames l m=false
 |[],[],h=>absurd rfl h
 |[],_::_,_=>by rw[sames]
 |_::_,[],_=>by rw[sames]
 |x::l,y::m,h=>by rw[sames,sames_len (l:=l) (m:=m) (fun e=>h (by simp[e])),Bool.and_false]
theorem sames_step{l m:List XT}{i:Nat}{x y:XT}(hx:l[i]? =some x)(hy:m[i]? =some y):sames (l.drop i) (m.drop i)=(sameX x y&&sames (l.drop (i+1)) (m.drop (i+1))):=by
 obtain⟨hl,rfl⟩:=List.getElem?_eq_some_iff.1 hx
 obtain⟨hm,rfl⟩:=List.getElem?_eq_some_iff.1 hy
 rw[List.drop_eq_getElem_cons hl,List.drop_eq_getElem_cons hm,sames]
theorem sames_end{l m:List XT}{i:Nat}(h:i=l.length)(e:l.length=m.length):sames (l.drop i) (m.drop i)=true:=by
 subst h
 rw[List.drop_length,e,List.drop_length,sames]
mutual
theorem sameX_refl:∀x:XT,sameX x x=true
 | .mk o n u l=>by rw[sameX,numE_refl,sames_refl l];simp
theorem sames_refl:∀l:List XT,sames l l=true
 |[]=>by rw[sames]
 |x::l=>by rw[sames,sameX_refl x,sames_refl l];rfl
end
theorem byS2{p:XT→XT→Prop}(h:∀x:XT,(∀x':XT,x'.size<x.size→∀y',p x' y')→∀y,p x y)(x y:XT):p x y:=by
 suffices k:∀n:Nat,∀x:XT,x.size<n→∀y,p x y from k _ x (Nat.lt_succ_self _) y
 intro n
 induction n with
 |zero=>intro x hx;omega
 |succ n ih=>exact fun x hx y=>h x (fun x' hx' y'=>ih x' (by omega) y') y
end Go.Via
namespace Go.Proofs.YtfijbadahkmhbaaGreatDoor
open Go Go.RowKit Go.Via
def SamC(x y:XT):Prop:=∀(z:XR x) (u:XR y),x.size≤1000000000→ECall Tryz.prog 32 [gB z.T false,gB u.T false] [z.v,u.v] Unit (fun _=> .bool (sameX x y)) (fun _=>[])
theorem c_same_step{x y:XT}(z:XR x)(u:XR y)(H:∀x1:XT,x1.size<x.size→∀y1,SamC x1 y1)(hM:x.size≤1000000000):ECall Tryz.prog 32 [gB z.T false,gB u.T false] [z.v,u.v] Unit (fun _=> .bool (sameX x y)) (fun _=>[]):=by
 refine⟨by kernel_rfl,fun B w hD hL0=>?_⟩;obtain⟨h1,h2,h3,h4,h5,h6⟩:=z.inv;obtain⟨k1,k2,k3,k4,k5,k6⟩:=u.inv;have hlx:=XT.len_sizes x.args;have hsx:=XT.size_eq x;refine cB2 53 Tryz.func32 hL0 ?_;refine A2 ?_;refine Bo [_,_,_,_,_,_,_] 7 (fun g=>[_,_,⟨some g,30,_,7,true⟩]) (fun g0=>?_);refine Bo [_,_,_,_,_,_,_] 7 (fun g=>[_,_,_,⟨some g,30,_,7,true⟩]) (fun g1=>?_);refine A12 ?_;refine Rs 11 ?_ ?_<;>intro hb0
 ·have q1:x.op≠y.op:=by rw[←h1,←k1];have hh:=hb0;simpa using hh
  refine A32 ?_;refine at_end1 rfl (res_tmp rfl) (fun w hL=>⟨(),eB (show sameX x y=false from by rw[sameX_eq,decide_eq_false q1];rfl).symm,hL.pk []⟩)
 ·have q1:x.op=y.op:=by rw[←h1,←k1];have hh:=hb0;simpa using hh
  refine A5 ?_;refine r_know 16 (.bool (!(x.name==y.name))) rfl (by rw[h2,k2,bne,strU_beq]) ?_;refine A2 ?_;refine Rs 18 ?_ ?_<;>intro hb1
  ·have q2:(x.name==y.name)=false:=by have hh:=hb1;simpa using hh
   refine A25 ?_;refine at_end1 rfl (res_tmp rfl) (fun w hL=>⟨(),eB (show sameX x y=false from by rw[sameX_eq,q2,Bool.false_and,Bool.and_false]).symm,hL.pk []⟩)
  ·have q2:(x.name==y.name)=true:=by have hh:=hb1;simpa using hh
   refine A1 ?_;refine Ld 2 2 [_,_,_,_] ti27 ?_;refine A1 ?_;refine Ld 3 2 [_,_,_,_] ti27 ?_;refine r_neqAgg rfl rfl rfl rfl gd27 (eq27r _ _ _ _ _ _ _ _) ?_;refine r_know 23 (.bool (!numE x.num y.num)) rfl (by rw[numE_cells h3 k3]) ?_;refine A2 ?_;refine Rs 25 ?_ ?_<;>intro hb2
   ·have q3:numE x.num y.num=false:=by have hh:=hb2;simpa using hh
    refine A18 ?_;refine at_end1 rfl (res_tmp rfl) (fun w hL=>⟨(),eB (show sameX x y=false from by rw[sameX_eq,q3,Bool.false_and,Bool.and_false,Bool.and_false]).symm,hL.pk []⟩)
   ·have q3:numE x.num y.num=true:=by have hh:=hb2;simpa using hh
    refine A3 ?_;refine r_know 28 (.int .i64 (x.args.length:Nat)) rfl (by rw[h5]) ?_;refine A3 ?_;refine r_know 31 (.int .i64 (y.args.length:Nat)) rfl (by rw[k5]) ?_;refine A4 ?_;refine Cd ?_ ?_<;>intro hb3
    ·have q4:x.args.length≠y.args.length:=by have hh:=hb3;simp at hh;omega
     refine A7 ?_;refine at_end1 rfl (res_tmp rfl) (fun w hL=>⟨(),eB (show sameX x y=false from by rw[sameX_eq,sames_len q4,Bool.and_false,Bool.and_false,Bool.and_false]).symm,hL.pk []⟩)
    ·have q4:x.args.length=y.args.length:=by have hh:=hb3;simp at hh;omega
     refine A9 ?_;refine El (ι:={i:Nat // i≤x.args.length∧sames x.args y.args=sames (x.args.drop i) (y.args.drop i)}) (fun⟨i,hi,hI⟩=>([(2,.pointer (some ⟨g0,0,none⟩)),(3,.pointer (some ⟨g1,0,none⟩)),(5,.int .i64 (i:Nat))],[gB z.T false,gB u.T false,XB g0 z,XB g1 u],x.args.length-i)) ⟨0,Nat.zero_le _,by rw[List.drop_zero,List.drop_zero]⟩ ?_ (hL:=Weak.auto);rintro⟨i,hi,hI⟩;(try dsimp only);refine A7 ?_;refine r_know 37 (.int .i64 (x.args.length:Nat)) rfl (by rw[h5]) ?_;refine A3 ?_;refine Cd ?_ ?_<;>intro hb5
     ·have hlt:i<x.args.length:=by have:=of_decide_eq_true hb5;omega
      obtain⟨x1,hx1⟩:∃x1,x.args[i]? =some x1:=⟨x.args[i],List.getElem?_eq_getElem hlt⟩;obtain⟨y1,hy1⟩:∃y1,y.args[i]? =some y1:=⟨y.args[i]'(by omega),List.getElem?_eq_getElem _⟩;obtain⟨ga,oa,ca,v1,hza,hma,hra,hTa,hna⟩:=z.arg hx1;obtain⟨gb,ob,cb,v2,hzb,hmb,hrb,hTb,hnb⟩:=u.arg hy1;have hs1:x1.size≤1000000000:=by have:=XT.arg_lt hx1;omega
      refine A5 ?_;refine at_drawnI [] mixed (by kernel_rfl) (by kernel_rfl) ?_;refine A3 ?_;refine r_indexAddrG (gg:=ga) (len:=z.n) (cap:=z.cap) (oa+i*7) u28 ti30 rfl rfl (congrArg (fun a=>some (Value.slice a z.n z.cap)) hza) rfl (by omega) (by omega) (by show oa+Int.toNat _*7=_;omega) ?_;refine r_loadT (v:=v1.v) 0 (oa+i*7) v1.cs rfl rfl rfl z.hT hma hna rfl ti30 hra rfl rfl rfl ?_;refine A3 ?_;refine r_indexAddrG (gg:=gb) (len:=u.n) (cap:=u.cap) (ob+i*7) u28 ti30 rfl rfl (congrArg (fun a=>some (Value.slice a u.n u.cap)) hzb) rfl (by omega) (by omega) (by show ob+Int.toNat _*7=_;omega) ?_;refine r_loadT (v:=v2.v) 1 (ob+i*7) v2.cs rfl rfl rfl u.hT hmb hnb rfl ti30 hrb rfl rfl rfl ?_;have hcx:=H x1 (XT.arg_lt hx1) y1 v1 v2 hs1;rw[hTa,hTb] at hcx;refine r_scall0 [v1.v,v2.v] [0,1] rfl rfl rfl (ECall.toS hcx) ⟨⟨_,rfl,Blk.le_refl _⟩,⟨_,rfl,Blk.le_refl _⟩,trivial⟩ rfl ?_;refine A3 ?_;refine Cd ?_ ?_<;>intro hb6
      ·have hs:sameX x1 y1=false:=by have hh:=hb6;simpa using hh
       refine A11 ?_;refine at_end1 rfl (res_tmp rfl) (fun w hL=>⟨(),eB (show sameX x y=false from by rw[sameX_eq,decide_eq_true q1,q2,q3,hI,sames_step hx1 hy1,hs];rfl).symm,hL.pk []⟩)
      ·have hs:sameX x1 y1=true:=by have hh:=hb6;simpa using hh
       refine A5 ?_;refine Ar (((i+1:Nat):Int)) ?_;refine A3 ?_;exact Nl ⟨i+1,hlt,by rw[hI,sames_step hx1 hy1,hs];rfl⟩ (hL:=Weak.auto)
     ·have hge:i=x.args.length:=by have:=of_decide_eq_false hb5;omega
      refine A11 ?_;refine at_end1 rfl (res_tmp rfl) (fun w hL=>⟨(),eB (show sameX x y=true from by rw[sameX_eq,decide_eq_true q1,q2,q3,hI,sames_end hge q4];rfl).symm,hL.pk []⟩)
theorem c_same(x y:XT):SamC x y:=byS2 (fun x H y z u hM=>c_same_step z u H hM) x y
end Go.Proofs.YtfijbadahkmhbaaGreatDoor
namespace Go.Via
open Go Go.RowKit
abbrev VK(gc n:Nat):Blk:=⟨some gc,73,[.int .i64 (n:Nat)],1,true⟩
theorem cnt_pos{op:Int}{o:Frm}(h:mfind op=some o)(h1:op≠1)(h3:op≠3)(h4:op≠4)(h5:op≠5):1≤o.2.1:=by
 have ho:((o.1:Nat):Int)=op:=by have:=List.find?_some h;simpa using this
 have hk:frmT.all (fun o=>o.1==1||o.1==3||o.1==4||o.1==5||decide (1≤o.2.1))=true:=by decide+kernel
 have:=List.all_eq_true.1 hk o (List.mem_of_find?_eq_some h)
 simp only[Bool.or_eq_true,beq_iff_eq,decide_eq_true_eq] at this
 omega
theorem mn_arg{l:List XT}{i:Nat}{y:XT}(hy:l[i]? =some y)(ha:y.op≠1)(hi:i<2):(l.map XT.op)[0]? ≠some 1∨(l.map XT.op)[1]? ≠some 1:=by
 have h:(l.map XT.op)[i]? ≠some 1:=by rw[List.getElem?_map,hy];simpa using ha
 match i,hi with
 |0,_=>exact .inl h
 |1,_=>exact .inr h
end Go.Via
namespace Go.Proofs.YtfijbadahkmhbaaGreatDoor
open Go Go.RowKit Go.Via
theorem c_law_isIdZ{x:XT}(z:XR x)(hf:x.num.fit=true):PCall Tryz.prog 110 #[.agg #[.bool z.b1,.string z.s1,.bool z.b2,.string z.s2]] (.bool x.num.isId):=by
 obtain⟨_,_,h3,_,_,_⟩:=z.inv
 have hs:=NumV.fit_cells h3 hf
 cases ho:x.num.ok with
 |true=>
  obtain⟨q,h1,h2,h4,h5,h6,h7⟩:=NumV.isId_yes h3 hf ho
  rw[h1,h2,h4,h5,h6]
  exact c_law_isIdQ q h7
 |false=>
  have hq:isQ z.b1 z.s1 z.b2 z.s2=false:=by rw[NumV.ok_cells h3];exact ho
  rw[NumV.isId_no h3 ho]
  exact c_law_isIdR z.b1 z.s1 z.b2 z.s2 hs.1 hs.2 hq
theorem c_mnode_1{x:XT}(z:XR x)(hfn:x.name.length≤1000000)(hfu:x.num.fit=true)(lv n gc:Nat)(hn:n≤256)(hlv:lv≤1000)(hop:x.op=1):ECall Tryz.prog 90 [VK gc n,gB z.T false] [.pointer (some ⟨gc,0,none⟩),z.v,.int .i64 (lv:Nat)] Unit (fun _=> .int .i64 (mnode x lv n:Nat)) (fun _=>[VK gc (n+1)]):=by
 refine⟨by kernel_rfl,fun B w hD hL0=>?_⟩;obtain⟨h1,h2,h3,h4,h5,h6⟩:=z.inv;have hs:=NumV.fit_cells h3 hfu
 have hcn:cntL x.op=0:=(by rw[hop];rfl);refine cB3 126 Tryz.func90 hL0 ?_;refine A2 ?_;refine Bo [_,_,_,_,_,_,_] 7 (fun g=>[_,_,⟨some g,30,_,7,true⟩]) (fun g0=>?_);refine A9 ?_;refine Ar (((n+1:Nat):Int)) ?_;refine A2 ?_;refine So 0 0 [⟨some gc,73,_,1,true⟩,_,_] [_] ?_;refine A12 ?_;refine Cd ?_ ?_<;>intro hb0
 ·have hn1:256≤n:=by have:=of_decide_eq_true hb0;omega
  refine A7 ?_;refine at_end1 rfl (res_tmp rfl) (fun w hL=>⟨(),eI (by unfold mnode;rw[if_pos hn1]),hL.pk [some 0]⟩)
 ·have hn1:¬256≤n:=by have:=of_decide_eq_false hb0;omega
  refine A9 ?_;refine Cd ?_ ?_<;>intro hb1
  ·have hl1:32<lv:=by have:=of_decide_eq_true hb1;omega
   refine A7 ?_;refine at_end1 rfl (res_tmp rfl) (fun w hL=>⟨(),eI (by unfold mnode;rw[if_neg hn1,if_pos hl1]),hL.pk [some 0]⟩)
  ·have hl1:¬32<lv:=by have:=of_decide_eq_false hb1;omega
   refine A3 ?_;refine at_regionM ?_;refine A2 ?_;refine Kp 26 h1 ?_;refine Gm 0 [] [] (fun _=>[_,_,_]) (c_law_of x.op) (fun _=>?_);refine r_know 27 (.tuple #[.agg #[.int .i64 1,.int .i64 0,.int .i64 8,.string (strU [])],.bool true]) rfl (by rw[hop];kernel_rfl) ?_;refine A3 ?_;refine r_alloc [_,_,_,_] 4 (fun g=>[_,_,_,⟨some g,94,_,4,true⟩]) rfl rfl z94 rfl rfl (fun _=>rfl) (fun g1=>?_);refine So 3 0 [_,_,_,⟨some g1,94,_,4,true⟩] [_,_,_,_] ?_;refine A19 ?_;refine r_know 34 (.int .i64 (x.args.length:Nat)) rfl (by rw[h5]) ?_;refine A4 ?_;refine Rs 38 ?_ ?_<;>intro hb2
   ·have hlen:((x.args.length:Nat):Int)≠cntL x.op:=by rw[hcn];have hh:=hb2;simpa using hh
    refine A40 ?_;refine at_end1 rfl (res_tmp rfl) (fun w hL=>⟨(),eI (by unfold mnode nodeE;rw[if_neg hn1,if_neg hl1,if_neg (by rw[hcn];omega),if_pos (.inl hlen)]),hL.pk [some 0]⟩)
   ·have hlen:((x.args.length:Nat):Int)=cntL x.op:=by rw[hcn];have hh:=hb2;simpa using hh
    have hl2:x.args.length=0:=(by rw[hcn] at hlen;omega);refine A2 ?_;refine r_know 40 (.string (strU x.name)) rfl (by rw[h2]) ?_;refine A1 ?_;refine r_know 41 (.bool (x.name !=[])) rfl (by rw[show(strU x.name !=⟨#[]⟩)=(strU x.name !=strU []) from rfl,bne,strU_beq];rfl) ?_;refine A1 ?_;refine Rs 42 ?_ ?_<;>intro hb3
    ·have hnm:x.name≠[]:=by simpa using hb3
     refine A2 ?_;refine Kp 44 h1 ?_;refine A1 ?_;refine r_know 45 (.bool true) rfl (by rw[hop];rfl) ?_;refine A4 ?_;refine Kp 49 h1 ?_;refine A1 ?_;refine r_know 50 (.bool true) rfl (by rw[hop];rfl) ?_;refine A28 ?_;refine at_end1 rfl (res_tmp rfl) (fun w hL=>⟨(),eI (by unfold mnode nodeE;rw[if_neg hn1,if_neg hl1,if_neg (by rw[hcn];omega),if_pos (.inr (.inr ⟨(by rw[hop];decide),(by rw[hop];decide),hnm⟩))]),hL.pk [some 0]⟩)
    ·have hnm:x.name=[]:=by simpa using hb3
     refine A12 ?_;refine Ld 2 2 [_,_,_,_] ti27 ?_;refine r_build [] rfl rfl rfl (bd27_0) ?_;refine r_neqAgg rfl rfl rfl rfl gd27 (eq27r _ _ _ _ _ _ _ _) ?_;refine r_know 57 (.bool (!x.num.isZ)) rfl (by rw[NumV.isZ_cells h3]) ?_;refine A1 ?_;refine Rs 58 ?_ ?_<;>intro hb4
     ·have hz:x.num.isZ=false:=by simpa using hb4
      refine A2 ?_;refine Kp 60 h1 ?_;refine A1 ?_;refine r_know 61 (.bool false) rfl (by rw[hop];rfl) ?_;refine A17 ?_;refine Kp 70 h1 ?_;refine A1 ?_;refine r_know 71 (.bool true) rfl (by rw[hop];rfl) ?_;refine A2 ?_;refine Ld 2 2 [_,_,_,_] ti27 ?_;refine Pc (c_rational_Check z.b1 z.s1 z.b2 z.s2 hs.1 hs.2) ?_;refine r_know 75 (.int .i64 (if x.num.ok=true then 0 else 5)) rfl (by rw[NumV.ok_cells h3]) ?_;refine A4 ?_;refine Cd ?_ ?_<;>intro hb5
      ·have hok:x.num.ok=false:=by have hh:=hb5;revert hh;cases x.num.ok<;>simp
       refine A7 ?_;refine at_end1 rfl (res_tmp rfl) (fun w hL=>⟨(),eI (by unfold mnode nodeE;rw[if_neg hn1,if_neg hl1,if_neg (by rw[hcn];omega),if_neg (fun h=>by
 rcases h with h|⟨ha,hb,h⟩|⟨ha,hb,h⟩
 ·exact h hlen
 ·exact ha hop
 ·exact h hnm),if_pos ⟨hop,hok⟩]),hL.pk [some 0]⟩)
      ·have hok:x.num.ok=true:=by have hh:=hb5;revert hh;cases x.num.ok<;>simp
       refine A9 ?_;refine El (ι:=Unit) (fun⟨⟩=>([(0,.pointer (some ⟨gc,0,none⟩)),(4,.pointer (some ⟨g0,0,none⟩)),(9,.int .i64 0)],[VK gc (n+1),gB z.T false,XB g0 z],0)) () ?_ (hL:=Weak.auto);rintro⟨⟩;(try dsimp only);refine A7 ?_;refine r_know 81 (.int .i64 (x.args.length:Nat)) rfl (by rw[h5]) ?_;refine A1 ?_;refine r_know 82 (.bool false) rfl (congrArg Value.bool (decide_eq_false (by omega))) ?_;refine A19 ?_;refine Kp 99 h1 ?_;refine A1 ?_;refine r_know 100 (.bool false) rfl (by rw[hop];rfl) ?_;refine A15 ?_;refine Kp 109 h1 ?_;refine A1 ?_;refine r_know 110 (.bool false) rfl (by rw[hop];rfl) ?_;refine A13 ?_;refine Kp 118 h1 ?_;refine A1 ?_;refine r_know 119 (.bool false) rfl (by rw[hop];rfl) ?_;refine A19 ?_;refine at_end1 rfl (res_tmp rfl) (fun w hL=>⟨(),eI (by unfold mnode nodeE;rw[if_neg hn1,if_neg hl1,if_neg (by rw[hcn];omega),if_neg (fun h=>by
 rcases h with h|⟨ha,hb,h⟩|⟨ha,hb,h⟩
 ·exact h hlen
 ·exact ha hop
 ·exact h hnm),if_neg (fun h=>by rw[hok] at h;cases h.2),if_neg (fun h=>absurd h.1 (by rw[hop];decide)),if_neg (fun h=>absurd h.1 (by rw[hop];decide)),if_neg (fun h=>by
 rcases h with h|h
 ·exact absurd h.1 (by rw[hop];decide)
 ·exact absurd h.1 (by rw[hop];decide))]),hL.pk [some 0]⟩)
     ·have hz:x.num.isZ=true:=by simpa using hb4
      refine A20 ?_;refine Kp 70 h1 ?_;refine A1 ?_;refine r_know 71 (.bool true) rfl (by rw[hop];rfl) ?_;refine A2 ?_;refine Ld 2 2 [_,_,_,_] ti27 ?_;refine Pc (c_rational_Check z.b1 z.s1 z.b2 z.s2 hs.1 hs.2) ?_;refine r_know 75 (.int .i64 (if x.num.ok=true then 0 else 5)) rfl (by rw[NumV.ok_cells h3]) ?_;refine A4 ?_;refine Cd ?_ ?_<;>intro hb5
      ·have hok:x.num.ok=false:=by have hh:=hb5;revert hh;cases x.num.ok<;>simp
       refine A7 ?_;refine at_end1 rfl (res_tmp rfl) (fun w hL=>⟨(),eI (by unfold mnode nodeE;rw[if_neg hn1,if_neg hl1,if_neg (by rw[hcn];omega),if_neg (fun h=>by
 rcases h with h|⟨ha,hb,h⟩|⟨ha,hb,h⟩
 ·exact h hlen
 ·exact ha hop
 ·exact h hnm),if_pos ⟨hop,hok⟩]),hL.pk [some 0]⟩)
      ·have hok:x.num.ok=true:=by have hh:=hb5;revert hh;cases x.num.ok<;>simp
       refine A9 ?_;refine El (ι:=Unit) (fun⟨⟩=>([(0,.pointer (some ⟨gc,0,none⟩)),(4,.pointer (some ⟨g0,0,none⟩)),(9,.int .i64 0)],[VK gc (n+1),gB z.T false,XB g0 z],0)) () ?_ (hL:=Weak.auto);rintro⟨⟩;(try dsimp only);refine A7 ?_;refine r_know 81 (.int .i64 (x.args.length:Nat)) rfl (by rw[h5]) ?_;refine A1 ?_;refine r_know 82 (.bool false) rfl (congrArg Value.bool (decide_eq_false (by omega))) ?_;refine A19 ?_;refine Kp 99 h1 ?_;refine A1 ?_;refine r_know 100 (.bool false) rfl (by rw[hop];rfl) ?_;refine A15 ?_;refine Kp 109 h1 ?_;refine A1 ?_;refine r_know 110 (.bool false) rfl (by rw[hop];rfl) ?_;refine A13 ?_;refine Kp 118 h1 ?_;refine A1 ?_;refine r_know 119 (.bool false) rfl (by rw[hop];rfl) ?_;refine A19 ?_;refine at_end1 rfl (res_tmp rfl) (fun w hL=>⟨(),eI (by unfold mnode nodeE;rw[if_neg hn1,if_neg hl1,if_neg (by rw[hcn];omega),if_neg (fun h=>by
 rcases h with h|⟨ha,hb,h⟩|⟨ha,hb,h⟩
 ·exact h hlen
 ·exact ha hop
 ·exact h hnm),if_neg (fun h=>by rw[hok] at h;cases h.2),if_neg (fun h=>absurd h.1 (by rw[hop];decide)),if_neg (fun h=>absurd h.1 (by rw[hop];decide)),if_neg (fun h=>by
 rcases h with h|h
 ·exact absurd h.1 (by rw[hop];decide)
 ·exact absurd h.1 (by rw[hop];decide))]),hL.pk [some 0]⟩)
theorem c_mnode_2{x:XT}(z:XR x)(hfn:x.name.length≤1000000)(hfu:x.num.fit=true)(lv n gc:Nat)(hn:n≤256)(hlv:lv≤1000)(hop:x.op=2):ECall Tryz.prog 90 [VK gc n,gB z.T false] [.pointer (some ⟨gc,0,none⟩),z.v,.int .i64 (lv:Nat)] Unit (fun _=> .int .i64 (mnode x lv n:Nat)) (fun _=>[VK gc (n+1)]):=by
 refine⟨by kernel_rfl,fun B w hD hL0=>?_⟩;obtain⟨h1,h2,h3,h4,h5,h6⟩:=z.inv;have hs:=NumV.fit_cells h3 hfu
 have hcn:cntL x.op=2:=(by rw[hop];rfl);refine cB3 126 Tryz.func90 hL0 ?_;refine A2 ?_;refine Bo [_,_,_,_,_,_,_] 7 (fun g=>[_,_,⟨some g,30,_,7,true⟩]) (fun g0=>?_);refine A6 ?_;refine Kr 10 (.pointer (some ⟨gc,0,none⟩)) ?_;refine A3 ?_;refine Ar (((n+1:Nat):Int)) ?_;refine A2 ?_;refine So 0 0 [⟨some gc,73,_,1,true⟩,_,_] [_] ?_;refine A12 ?_;refine Cd ?_ ?_<;>intro hb0
 ·have hn1:256≤n:=by have:=of_decide_eq_true hb0;omega
  refine A7 ?_;refine at_end1 rfl (res_tmp rfl) (fun w hL=>⟨(),eI (by unfold mnode;rw[if_pos hn1]),hL.pk [some 0]⟩)
 ·have hn1:¬256≤n:=by have:=of_decide_eq_false hb0;omega
  refine A9 ?_;refine Cd ?_ ?_<;>intro hb1
  ·have hl1:32<lv:=by have:=of_decide_eq_true hb1;omega
   refine A7 ?_;refine at_end1 rfl (res_tmp rfl) (fun w hL=>⟨(),eI (by unfold mnode;rw[if_neg hn1,if_pos hl1]),hL.pk [some 0]⟩)
  ·have hl1:¬32<lv:=by have:=of_decide_eq_false hb1;omega
   refine A3 ?_;refine at_regionM ?_;refine A2 ?_;refine Kp 26 h1 ?_;refine Gm 0 [] [] (fun _=>[_,_,_]) (c_law_of x.op) (fun _=>?_);refine r_know 27 (.tuple #[.agg #[.int .i64 2,.int .i64 2,.int .i64 8,.string (strU [112,111,105,110,116])],.bool true]) rfl (by rw[hop];kernel_rfl) ?_;refine A3 ?_;refine r_alloc [_,_,_,_] 4 (fun g=>[_,_,_,⟨some g,94,_,4,true⟩]) rfl rfl z94 rfl rfl (fun _=>rfl) (fun g1=>?_);refine So 3 0 [_,_,_,⟨some g1,94,_,4,true⟩] [_,_,_,_] ?_;refine A19 ?_;refine r_know 34 (.int .i64 (x.args.length:Nat)) rfl (by rw[h5]) ?_;refine A4 ?_;refine Rs 38 ?_ ?_<;>intro hb2
   ·have hlen:((x.args.length:Nat):Int)≠cntL x.op:=by rw[hcn];have hh:=hb2;simpa using hh
    refine A40 ?_;refine at_end1 rfl (res_tmp rfl) (fun w hL=>⟨(),eI (by unfold mnode nodeE;rw[if_neg hn1,if_neg hl1,if_neg (by rw[hcn];omega),if_pos (.inl hlen)]),hL.pk [some 0]⟩)
   ·have hlen:((x.args.length:Nat):Int)=cntL x.op:=by rw[hcn];have hh:=hb2;simpa using hh
    have hl2:x.args.length=2:=(by rw[hcn] at hlen;omega);refine A2 ?_;refine r_know 40 (.string (strU x.name)) rfl (by rw[h2]) ?_;refine A1 ?_;refine r_know 41 (.bool (x.name !=[])) rfl (by rw[show(strU x.name !=⟨#[]⟩)=(strU x.name !=strU []) from rfl,bne,strU_beq];rfl) ?_;refine A1 ?_;refine Rs 42 ?_ ?_<;>intro hb3
    ·have hnm:x.name≠[]:=by simpa using hb3
     refine A2 ?_;refine Kp 44 h1 ?_;refine A1 ?_;refine r_know 45 (.bool true) rfl (by rw[hop];rfl) ?_;refine A4 ?_;refine Kp 49 h1 ?_;refine A1 ?_;refine r_know 50 (.bool true) rfl (by rw[hop];rfl) ?_;refine A28 ?_;refine at_end1 rfl (res_tmp rfl) (fun w hL=>⟨(),eI (by unfold mnode nodeE;rw[if_neg hn1,if_neg hl1,if_neg (by rw[hcn];omega),if_pos (.inr (.inr ⟨(by rw[hop];decide),(by rw[hop];decide),hnm⟩))]),hL.pk [some 0]⟩)
    ·have hnm:x.name=[]:=by simpa using hb3
     refine A12 ?_;refine Ld 2 2 [_,_,_,_] ti27 ?_;refine r_build [] rfl rfl rfl (bd27_0) ?_;refine r_neqAgg rfl rfl rfl rfl gd27 (eq27r _ _ _ _ _ _ _ _) ?_;refine r_know 57 (.bool (!x.num.isZ)) rfl (by rw[NumV.isZ_cells h3]) ?_;refine A1 ?_;refine Rs 58 ?_ ?_<;>intro hb4
     ·have hz:x.num.isZ=false:=by simpa using hb4
      refine A2 ?_;refine Kp 60 h1 ?_;refine A1 ?_;refine r_know 61 (.bool true) rfl (by rw[hop];rfl) ?_;refine A4 ?_;refine Kp 65 h1 ?_;refine A1 ?_;refine r_know 66 (.bool true) rfl (by rw[hop];rfl) ?_;refine A12 ?_;refine at_end1 rfl (res_tmp rfl) (fun w hL=>⟨(),eI (by unfold mnode nodeE;rw[if_neg hn1,if_neg hl1,if_neg (by rw[hcn];omega),if_pos (.inr (.inl ⟨(by rw[hop];decide),(by rw[hop];decide),hz⟩))]),hL.pk [some 0]⟩)
     ·have hz:x.num.isZ=true:=by simpa using hb4
      refine A20 ?_;refine Kp 70 h1 ?_;refine A1 ?_;refine r_know 71 (.bool false) rfl (by rw[hop];rfl) ?_;refine A18 ?_;refine El (ι:={i:Nat // i≤x.args.length∧∀k,k<i→(x.args.map XT.op)[k]? =some 1}) (fun⟨i,hi,hI⟩=>([(0,.pointer (some ⟨gc,0,none⟩)),(4,.pointer (some ⟨g0,0,none⟩)),(9,.int .i64 (i:Nat))],[VK gc (n+1),gB z.T false,XB g0 z],x.args.length-i)) ⟨0,Nat.zero_le _,fun k hk=>absurd hk (by omega)⟩ ?_ (hL:=Weak.auto);rintro⟨i,hi,hI⟩;(try dsimp only);refine A7 ?_;refine r_know 81 (.int .i64 (x.args.length:Nat)) rfl (by rw[h5]) ?_;refine A2 ?_;refine Rs 83 ?_ ?_<;>intro hb6
      ·have hlt:i<x.args.length:=by have:=of_decide_eq_true hb6;omega
       obtain⟨y,hy⟩:∃y,x.args[i]? =some y:=⟨x.args[i],List.getElem?_eq_getElem hlt⟩;obtain⟨ga,oa,ca,u,hza,hma,hra,hTa,hna⟩:=z.arg hy;refine A2 ?_;refine Kp 85 h1 ?_;refine A1 ?_;refine r_know 86 (.bool true) rfl (by rw[hop];rfl) ?_;refine A13 ?_;refine r_indexAddrG (gg:=ga) (len:=z.n) (cap:=z.cap) (oa+i*7) u28 ti30 rfl rfl (congrArg (fun a=>some (Value.slice a z.n z.cap)) hza) rfl (by omega) (by omega) (by show oa+Int.toNat _*7=_;omega) ?_;refine r_fieldAddrG (oa+i*7) 0 rfl rfl rfl ti30 rfl rfl ?_;refine r_loadT (v:= .int .i64 u.op) 1 (oa+i*7) _ rfl rfl rfl z.hT hma hna rfl ti3 (row_op hra) rfl rfl rfl ?_;refine A3 ?_;refine Cd ?_ ?_<;>intro hb7
       ·have ha:y.op≠1:=by rw[←u.inv.1];have hh:=hb7;simpa using hh
        refine A11 ?_;refine at_end1 rfl (res_tmp rfl) (fun w hL=>⟨(),eI (by unfold mnode nodeE;rw[if_neg hn1,if_neg hl1,if_neg (by rw[hcn];omega),if_neg (fun h=>by
 rcases h with h|⟨ha,hb,h⟩|⟨ha,hb,h⟩
 ·exact h hlen
 ·rw[hz] at h;cases h
 ·exact h hnm),if_neg (fun h=>absurd h.1 (by rw[hop];decide)),if_pos ⟨hop,mn_arg hy ha (by omega)⟩]),hL.pk [some 0]⟩)
       ·have ha:y.op=1:=by rw[←u.inv.1];have hh:=hb7;simpa using hh
        refine A5 ?_;refine Ar (((i+1:Nat):Int)) ?_;refine A3 ?_;exact nextL ⟨i+1,hlt,fun k hk=>by
 by_cases e:k=i
 ·subst e;rw[List.getElem?_map,hy,Option.map_some,ha]
 ·exact hI k (by omega)⟩ (by simp only[];omega) ⟨rfl,rfl,rfl,trivial⟩ (weak_pk [some 0,some 1,some 2])
      ·have hge:i=x.args.length:=by have:=of_decide_eq_false hb6;omega
       refine A18 ?_;refine Kp 99 h1 ?_;refine A1 ?_;refine r_know 100 (.bool false) rfl (by rw[hop];rfl) ?_;refine A15 ?_;refine Kp 109 h1 ?_;refine A1 ?_;refine r_know 110 (.bool false) rfl (by rw[hop];rfl) ?_;refine A13 ?_;refine Kp 118 h1 ?_;refine A1 ?_;refine r_know 119 (.bool false) rfl (by rw[hop];rfl) ?_;refine A19 ?_;refine at_end1 rfl (res_tmp rfl) (fun w hL=>⟨(),eI (by unfold mnode nodeE;rw[if_neg hn1,if_neg hl1,if_neg (by rw[hcn];omega),if_neg (fun h=>by
 rcases h with h|⟨ha,hb,h⟩|⟨ha,hb,h⟩
 ·exact h hlen
 ·rw[hz] at h;cases h
 ·exact h hnm),if_neg (fun h=>absurd h.1 (by rw[hop];decide)),if_neg (fun h=>by
 rcases h.2 with h|h
 ·exact h (hI 0 (by omega))
 ·exact h (hI 1 (by omega))),if_neg (fun h=>absurd h.1 (by rw[hop];decide)),if_neg (fun h=>by
 rcases h with h|h
 ·exact absurd h.1 (by rw[hop];decide)
 ·exact absurd h.1 (by rw[hop];decide))]),hL.pk [some 0]⟩)
theorem c_mnode_3{x:XT}(z:XR x)(hfn:x.name.length≤1000000)(hfu:x.num.fit=true)(lv n gc:Nat)(hn:n≤256)(hlv:lv≤1000)(hop:x.op=3):ECall Tryz.prog 90 [VK gc n,gB z.T false] [.pointer (some ⟨gc,0,none⟩),z.v,.int .i64 (lv:Nat)] Unit (fun _=> .int .i64 (mnode x lv n:Nat)) (fun _=>[VK gc (n+1)]):=by
 refine⟨by kernel_rfl,fun B w hD hL0=>?_⟩;obtain⟨h1,h2,h3,h4,h5,h6⟩:=z.inv;have hs:=NumV.fit_cells h3 hfu
 have hcn:cntL x.op=0:=(by rw[hop];rfl);refine cB3 126 Tryz.func90 hL0 ?_;refine A2 ?_;refine Bo [_,_,_,_,_,_,_] 7 (fun g=>[_,_,⟨some g,30,_,7,true⟩]) (fun g0=>?_);refine A9 ?_;refine Ar (((n+1:Nat):Int)) ?_;refine A2 ?_;refine So 0 0 [⟨some gc,73,_,1,true⟩,_,_] [_] ?_;refine A12 ?_;refine Cd ?_ ?_<;>intro hb0
 ·have hn1:256≤n:=by have:=of_decide_eq_true hb0;omega
  refine A7 ?_;refine at_end1 rfl (res_tmp rfl) (fun w hL=>⟨(),eI (by unfold mnode;rw[if_pos hn1]),hL.pk [some 0]⟩)
 ·have hn1:¬256≤n:=by have:=of_decide_eq_false hb0;omega
  refine A9 ?_;refine Cd ?_ ?_<;>intro hb1
  ·have hl1:32<lv:=by have:=of_decide_eq_true hb1;omega
   refine A7 ?_;refine at_end1 rfl (res_tmp rfl) (fun w hL=>⟨(),eI (by unfold mnode;rw[if_neg hn1,if_pos hl1]),hL.pk [some 0]⟩)
  ·have hl1:¬32<lv:=by have:=of_decide_eq_false hb1;omega
   refine A3 ?_;refine at_regionM ?_;refine A2 ?_;refine Kp 26 h1 ?_;refine Gm 0 [] [] (fun _=>[_,_,_]) (c_law_of x.op) (fun _=>?_);refine r_know 27 (.tuple #[.agg #[.int .i64 3,.int .i64 0,.int .i64 8,.string (strU [111,98,106,101,99,116])],.bool true]) rfl (by rw[hop];kernel_rfl) ?_;refine A3 ?_;refine r_alloc [_,_,_,_] 4 (fun g=>[_,_,_,⟨some g,94,_,4,true⟩]) rfl rfl z94 rfl rfl (fun _=>rfl) (fun g1=>?_);refine So 3 0 [_,_,_,⟨some g1,94,_,4,true⟩] [_,_,_,_] ?_;refine A19 ?_;refine r_know 34 (.int .i64 (x.args.length:Nat)) rfl (by rw[h5]) ?_;refine A4 ?_;refine Rs 38 ?_ ?_<;>intro hb2
   ·have hlen:((x.args.length:Nat):Int)≠cntL x.op:=by rw[hcn];have hh:=hb2;simpa using hh
    refine A40 ?_;refine at_end1 rfl (res_tmp rfl) (fun w hL=>⟨(),eI (by unfold mnode nodeE;rw[if_neg hn1,if_neg hl1,if_neg (by rw[hcn];omega),if_pos (.inl hlen)]),hL.pk [some 0]⟩)
   ·have hlen:((x.args.length:Nat):Int)=cntL x.op:=by rw[hcn];have hh:=hb2;simpa using hh
    have hl2:x.args.length=0:=(by rw[hcn] at hlen;omega);refine A2 ?_;refine r_know 40 (.string (strU x.name)) rfl (by rw[h2]) ?_;refine A1 ?_;refine r_know 41 (.bool (x.name !=[])) rfl (by rw[show(strU x.name !=⟨#[]⟩)=(strU x.name !=strU []) from rfl,bne,strU_beq];rfl) ?_;refine A1 ?_;refine Rs 42 ?_ ?_<;>intro hb3
    ·have hnm:x.name≠[]:=by simpa using hb3
     refine A2 ?_;refine Kp 44 h1 ?_;refine A1 ?_;refine r_know 45 (.bool true) rfl (by rw[hop];rfl) ?_;refine A4 ?_;refine Kp 49 h1 ?_;refine A1 ?_;refine r_know 50 (.bool true) rfl (by rw[hop];rfl) ?_;refine A28 ?_;refine at_end1 rfl (res_tmp rfl) (fun w hL=>⟨(),eI (by unfold mnode nodeE;rw[if_neg hn1,if_neg hl1,if_neg (by rw[hcn];omega),if_pos (.inr (.inr ⟨(by rw[hop];decide),(by rw[hop];decide),hnm⟩))]),hL.pk [some 0]⟩)
    ·have hnm:x.name=[]:=by simpa using hb3
     refine A12 ?_;refine Ld 2 2 [_,_,_,_] ti27 ?_;refine r_build [] rfl rfl rfl (bd27_0) ?_;refine r_neqAgg rfl rfl rfl rfl gd27 (eq27r _ _ _ _ _ _ _ _) ?_;refine r_know 57 (.bool (!x.num.isZ)) rfl (by rw[NumV.isZ_cells h3]) ?_;refine A1 ?_;refine Rs 58 ?_ ?_<;>intro hb4
     ·have hz:x.num.isZ=false:=by simpa using hb4
      refine A2 ?_;refine Kp 60 h1 ?_;refine A1 ?_;refine r_know 61 (.bool true) rfl (by rw[hop];rfl) ?_;refine A4 ?_;refine Kp 65 h1 ?_;refine A1 ?_;refine r_know 66 (.bool false) rfl (by rw[hop];rfl) ?_;refine A12 ?_;refine Kp 70 h1 ?_;refine A1 ?_;refine r_know 71 (.bool false) rfl (by rw[hop];rfl) ?_;refine A18 ?_;refine El (ι:=Unit) (fun⟨⟩=>([(0,.pointer (some ⟨gc,0,none⟩)),(4,.pointer (some ⟨g0,0,none⟩)),(9,.int .i64 0)],[VK gc (n+1),gB z.T false,XB g0 z],0)) () ?_ (hL:=Weak.auto);rintro⟨⟩;(try dsimp only);refine A7 ?_;refine r_know 81 (.int .i64 (x.args.length:Nat)) rfl (by rw[h5]) ?_;refine A1 ?_;refine r_know 82 (.bool false) rfl (congrArg Value.bool (decide_eq_false (by omega))) ?_;refine A19 ?_;refine Kp 99 h1 ?_;refine A1 ?_;refine r_know 100 (.bool true) rfl (by rw[hop];rfl) ?_;refine A2 ?_;refine Ld 2 2 [_,_,_,_] ti27 ?_;refine Pc (c_law_isIdZ z hfu) ?_;refine A5 ?_;refine Cd ?_ ?_<;>intro hb6
      ·have hid:x.num.isId=false:=by simpa using hb6
       refine A8 ?_;refine at_end1 rfl (res_tmp rfl) (fun w hL=>⟨(),eI (by unfold mnode nodeE;rw[if_neg hn1,if_neg hl1,if_neg (by rw[hcn];omega),if_neg (fun h=>by
 rcases h with h|⟨ha,hb,h⟩|⟨ha,hb,h⟩
 ·exact h hlen
 ·exact hb hop
 ·exact h hnm),if_neg (fun h=>absurd h.1 (by rw[hop];decide)),if_neg (fun h=>absurd h.1 (by rw[hop];decide)),if_pos ⟨hop,hid⟩]),hL.pk [some 0]⟩)
      ·have hid:x.num.isId=true:=by simpa using hb6
       refine A5 ?_;refine Kp 109 h1 ?_;refine A1 ?_;refine r_know 110 (.bool false) rfl (by rw[hop];rfl) ?_;refine A13 ?_;refine Kp 118 h1 ?_;refine A1 ?_;refine r_know 119 (.bool false) rfl (by rw[hop];rfl) ?_;refine A19 ?_;refine at_end1 rfl (res_tmp rfl) (fun w hL=>⟨(),eI (by unfold mnode nodeE;rw[if_neg hn1,if_neg hl1,if_neg (by rw[hcn];omega),if_neg (fun h=>by
 rcases h with h|⟨ha,hb,h⟩|⟨ha,hb,h⟩
 ·exact h hlen
 ·exact hb hop
 ·exact h hnm),if_neg (fun h=>absurd h.1 (by rw[hop];decide)),if_neg (fun h=>absurd h.1 (by rw[hop];decide)),if_neg (fun h=>by rw[hid] at h;cases h.2),if_neg (fun h=>by
 rcases h with h|h
 ·exact absurd h.1 (by rw[hop];decide)
 ·exact absurd h.1 (by rw[hop];decide))]),hL.pk [some 0]⟩)
     ·have hz:x.num.isZ=true:=by simpa using hb4
      refine A20 ?_;refine Kp 70 h1 ?_;refine A1 ?_;refine r_know 71 (.bool false) rfl (by rw[hop];rfl) ?_;refine A18 ?_;refine El (ι:=Unit) (fun⟨⟩=>([(0,.pointer (some ⟨gc,0,none⟩)),(4,.pointer (some ⟨g0,0,none⟩)),(9,.int .i64 0)],[VK gc (n+1),gB z.T false,XB g0 z],0)) () ?_ (hL:=Weak.auto);rintro⟨⟩;(try dsimp only);refine A7 ?_;refine r_know 81 (.int .i64 (x.args.length:Nat)) rfl (by rw[h5]) ?_;refine A1 ?_;refine r_know 82 (.bool false) rfl (congrArg Value.bool (decide_eq_false (by omega))) ?_;refine A19 ?_;refine Kp 99 h1 ?_;refine A1 ?_;refine r_know 100 (.bool true) rfl (by rw[hop];rfl) ?_;refine A2 ?_;refine Ld 2 2 [_,_,_,_] ti27 ?_;refine Pc (c_law_isIdZ z hfu) ?_;refine A5 ?_;refine Cd ?_ ?_<;>intro hb6
      ·have hid:x.num.isId=false:=by simpa using hb6
       refine A8 ?_;refine at_end1 rfl (res_tmp rfl) (fun w hL=>⟨(),eI (by unfold mnode nodeE;rw[if_neg hn1,if_neg hl1,if_neg (by rw[hcn];omega),if_neg (fun h=>by
 rcases h with h|⟨ha,hb,h⟩|⟨ha,hb,h⟩
 ·exact h hlen
 ·exact hb hop
 ·exact h hnm),if_neg (fun h=>absurd h.1 (by rw[hop];decide)),if_neg (fun h=>absurd h.1 (by rw[hop];decide)),if_pos ⟨hop,hid⟩]),hL.pk [some 0]⟩)
      ·have hid:x.num.isId=true:=by simpa using hb6
       refine A5 ?_;refine Kp 109 h1 ?_;refine A1 ?_;refine r_know 110 (.bool false) rfl (by rw[hop];rfl) ?_;refine A13 ?_;refine Kp 118 h1 ?_;refine A1 ?_;refine r_know 119 (.bool false) rfl (by rw[hop];rfl) ?_;refine A19 ?_;refine at_end1 rfl (res_tmp rfl) (fun w hL=>⟨(),eI (by unfold mnode nodeE;rw[if_neg hn1,if_neg hl1,if_neg (by rw[hcn];omega),if_neg (fun h=>by
 rcases h with h|⟨ha,hb,h⟩|⟨ha,hb,h⟩
 ·exact h hlen
 ·exact hb hop
 ·exact h hnm),if_neg (fun h=>absurd h.1 (by rw[hop];decide)),if_neg (fun h=>absurd h.1 (by rw[hop];decide)),if_neg (fun h=>by rw[hid] at h;cases h.2),if_neg (fun h=>by
 rcases h with h|h
 ·exact absurd h.1 (by rw[hop];decide)
 ·exact absurd h.1 (by rw[hop];decide))]),hL.pk [some 0]⟩)
theorem c_mnode_4{x:XT}(z:XR x)(hfn:x.name.length≤1000000)(hfu:x.num.fit=true)(lv n gc:Nat)(hn:n≤256)(hlv:lv≤1000)(hop:x.op=4):ECall Tryz.prog 90 [VK gc n,gB z.T false] [.pointer (some ⟨gc,0,none⟩),z.v,.int .i64 (lv:Nat)] Unit (fun _=> .int .i64 (mnode x lv n:Nat)) (fun _=>[VK gc (n+1)]):=by
 refine⟨by kernel_rfl,fun B w hD hL0=>?_⟩;obtain⟨h1,h2,h3,h4,h5,h6⟩:=z.inv;have hs:=NumV.fit_cells h3 hfu
 have hcn:cntL x.op=0:=(by rw[hop];rfl);refine cB3 126 Tryz.func90 hL0 ?_;refine A2 ?_;refine Bo [_,_,_,_,_,_,_] 7 (fun g=>[_,_,⟨some g,30,_,7,true⟩]) (fun g0=>?_);refine A9 ?_;refine Ar (((n+1:Nat):Int)) ?_;refine A2 ?_;refine So 0 0 [⟨some gc,73,_,1,true⟩,_,_] [_] ?_;refine A12 ?_;refine Cd ?_ ?_<;>intro hb0
 ·have hn1:256≤n:=by have:=of_decide_eq_true hb0;omega
  refine A7 ?_;refine at_end1 rfl (res_tmp rfl) (fun w hL=>⟨(),eI (by unfold mnode;rw[if_pos hn1]),hL.pk [some 0]⟩)
 ·have hn1:¬256≤n:=by have:=of_decide_eq_false hb0;omega
  refine A9 ?_;refine Cd ?_ ?_<;>intro hb1
  ·have hl1:32<lv:=by have:=of_decide_eq_true hb1;omega
   refine A7 ?_;refine at_end1 rfl (res_tmp rfl) (fun w hL=>⟨(),eI (by unfold mnode;rw[if_neg hn1,if_pos hl1]),hL.pk [some 0]⟩)
  ·have hl1:¬32<lv:=by have:=of_decide_eq_false hb1;omega
   refine A3 ?_;refine at_regionM ?_;refine A2 ?_;refine Kp 26 h1 ?_;refine Gm 0 [] [] (fun _=>[_,_,_]) (c_law_of x.op) (fun _=>?_);refine r_know 27 (.tuple #[.agg #[.int .i64 4,.int .i64 0,.int .i64 8,.string (strU [])],.bool true]) rfl (by rw[hop];kernel_rfl) ?_;refine A3 ?_;refine r_alloc [_,_,_,_] 4 (fun g=>[_,_,_,⟨some g,94,_,4,true⟩]) rfl rfl z94 rfl rfl (fun _=>rfl) (fun g1=>?_);refine So 3 0 [_,_,_,⟨some g1,94,_,4,true⟩] [_,_,_,_] ?_;refine A19 ?_;refine r_know 34 (.int .i64 (x.args.length:Nat)) rfl (by rw[h5]) ?_;refine A4 ?_;refine Rs 38 ?_ ?_<;>intro hb2
   ·have hlen:((x.args.length:Nat):Int)≠cntL x.op:=by rw[hcn];have hh:=hb2;simpa using hh
    refine A40 ?_;refine at_end1 rfl (res_tmp rfl) (fun w hL=>⟨(),eI (by unfold mnode nodeE;rw[if_neg hn1,if_neg hl1,if_neg (by rw[hcn];omega),if_pos (.inl hlen)]),hL.pk [some 0]⟩)
   ·have hlen:((x.args.length:Nat):Int)=cntL x.op:=by rw[hcn];have hh:=hb2;simpa using hh
    have hl2:x.args.length=0:=(by rw[hcn] at hlen;omega);refine A2 ?_;refine r_know 40 (.string (strU x.name)) rfl (by rw[h2]) ?_;refine A1 ?_;refine r_know 41 (.bool (x.name !=[])) rfl (by rw[show(strU x.name !=⟨#[]⟩)=(strU x.name !=strU []) from rfl,bne,strU_beq];rfl) ?_;refine A1 ?_;refine Rs 42 ?_ ?_<;>intro hb3
    ·have hnm:x.name≠[]:=by simpa using hb3
     refine A2 ?_;refine Kp 44 h1 ?_;refine A1 ?_;refine r_know 45 (.bool false) rfl (by rw[hop];rfl) ?_;refine A9 ?_;refine Ld 2 2 [_,_,_,_] ti27 ?_;refine r_build [] rfl rfl rfl (bd27_0) ?_;refine r_neqAgg rfl rfl rfl rfl gd27 (eq27r _ _ _ _ _ _ _ _) ?_;refine r_know 57 (.bool (!x.num.isZ)) rfl (by rw[NumV.isZ_cells h3]) ?_;refine A1 ?_;refine Rs 58 ?_ ?_<;>intro hb4
     ·have hz:x.num.isZ=false:=by simpa using hb4
      refine A2 ?_;refine Kp 60 h1 ?_;refine A1 ?_;refine r_know 61 (.bool true) rfl (by rw[hop];rfl) ?_;refine A4 ?_;refine Kp 65 h1 ?_;refine A1 ?_;refine r_know 66 (.bool true) rfl (by rw[hop];rfl) ?_;refine A12 ?_;refine at_end1 rfl (res_tmp rfl) (fun w hL=>⟨(),eI (by unfold mnode nodeE;rw[if_neg hn1,if_neg hl1,if_neg (by rw[hcn];omega),if_pos (.inr (.inl ⟨(by rw[hop];decide),(by rw[hop];decide),hz⟩))]),hL.pk [some 0]⟩)
     ·have hz:x.num.isZ=true:=by simpa using hb4
      refine A20 ?_;refine Kp 70 h1 ?_;refine A1 ?_;refine r_know 71 (.bool false) rfl (by rw[hop];rfl) ?_;refine A18 ?_;refine El (ι:=Unit) (fun⟨⟩=>([(0,.pointer (some ⟨gc,0,none⟩)),(4,.pointer (some ⟨g0,0,none⟩)),(9,.int .i64 0)],[VK gc (n+1),gB z.T false,XB g0 z],0)) () ?_ (hL:=Weak.auto);rintro⟨⟩;(try dsimp only);refine A7 ?_;refine r_know 81 (.int .i64 (x.args.length:Nat)) rfl (by rw[h5]) ?_;refine A1 ?_;refine r_know 82 (.bool false) rfl (congrArg Value.bool (decide_eq_false (by omega))) ?_;refine A19 ?_;refine Kp 99 h1 ?_;refine A1 ?_;refine r_know 100 (.bool false) rfl (by rw[hop];rfl) ?_;refine A15 ?_;refine Kp 109 h1 ?_;refine A1 ?_;refine r_know 110 (.bool true) rfl (by rw[hop];rfl) ?_;refine A3 ?_;refine r_know 113 (.string (strU x.name)) rfl (by rw[h2]) ?_;refine Pc (c_law_isName x.name hfn) ?_;refine r_know 114 (.bool (nameL x.name)) rfl (by rw[name_same]) ?_;refine A5 ?_;refine Cd ?_ ?_<;>intro hb6
      ·have hN:nameL x.name=false:=by simpa using hb6
       refine A2 ?_;refine Cd ?_ ?_<;>intro hb7
       ·have hN:nameL x.name=false:=by simpa using hb7
        refine A8 ?_;refine at_end1 rfl (res_tmp rfl) (fun w hL=>⟨(),eI (by unfold mnode nodeE;rw[if_neg hn1,if_neg hl1,if_neg (by rw[hcn];omega),if_neg (fun h=>by
 rcases h with h|⟨ha,hb,h⟩|⟨ha,hb,h⟩
 ·exact h hlen
 ·rw[hz] at h;cases h
 ·exact ha hop),if_neg (fun h=>absurd h.1 (by rw[hop];decide)),if_neg (fun h=>absurd h.1 (by rw[hop];decide)),if_neg (fun h=>absurd h.1 (by rw[hop];decide)),if_pos (.inl ⟨hop,hN⟩)]),hL.pk [some 0]⟩)
       ·have hN:nameL x.name=true:=by simpa using hb7
        refine A9 ?_;refine at_end1 rfl (res_tmp rfl) (fun w hL=>⟨(),eI (by unfold mnode nodeE;rw[if_neg hn1,if_neg hl1,if_neg (by rw[hcn];omega),if_neg (fun h=>by
 rcases h with h|⟨ha,hb,h⟩|⟨ha,hb,h⟩
 ·exact h hlen
 ·rw[hz] at h;cases h
 ·exact ha hop),if_neg (fun h=>absurd h.1 (by rw[hop];decide)),if_neg (fun h=>absurd h.1 (by rw[hop];decide)),if_neg (fun h=>absurd h.1 (by rw[hop];decide)),if_neg (fun h=>by
 rcases h with h|h
 ·rw[hN] at h;cases h.2
 ·exact absurd h.1 (by rw[hop];decide))]),hL.pk [some 0]⟩)
      ·have hN:nameL x.name=true:=by simpa using hb6
       refine A3 ?_;refine Kp 118 h1 ?_;refine A1 ?_;refine r_know 119 (.bool false) rfl (by rw[hop];rfl) ?_;refine A19 ?_;refine at_end1 rfl (res_tmp rfl) (fun w hL=>⟨(),eI (by unfold mnode nodeE;rw[if_neg hn1,if_neg hl1,if_neg (by rw[hcn];omega),if_neg (fun h=>by
 rcases h with h|⟨ha,hb,h⟩|⟨ha,hb,h⟩
 ·exact h hlen
 ·rw[hz] at h;cases h
 ·exact ha hop),if_neg (fun h=>absurd h.1 (by rw[hop];decide)),if_neg (fun h=>absurd h.1 (by rw[hop];decide)),if_neg (fun h=>absurd h.1 (by rw[hop];decide)),if_neg (fun h=>by
 rcases h with h|h
 ·rw[hN] at h;cases h.2
 ·exact absurd h.1 (by rw[hop];decide))]),hL.pk [some 0]⟩)
    ·have hnm:x.name=[]:=by simpa using hb3
     refine A12 ?_;refine Ld 2 2 [_,_,_,_] ti27 ?_;refine r_build [] rfl rfl rfl (bd27_0) ?_;refine r_neqAgg rfl rfl rfl rfl gd27 (eq27r _ _ _ _ _ _ _ _) ?_;refine r_know 57 (.bool (!x.num.isZ)) rfl (by rw[NumV.isZ_cells h3]) ?_;refine A1 ?_;refine Rs 58 ?_ ?_<;>intro hb4
     ·have hz:x.num.isZ=false:=by simpa using hb4
      refine A2 ?_;refine Kp 60 h1 ?_;refine A1 ?_;refine r_know 61 (.bool true) rfl (by rw[hop];rfl) ?_;refine A4 ?_;refine Kp 65 h1 ?_;refine A1 ?_;refine r_know 66 (.bool true) rfl (by rw[hop];rfl) ?_;refine A12 ?_;refine at_end1 rfl (res_tmp rfl) (fun w hL=>⟨(),eI (by unfold mnode nodeE;rw[if_neg hn1,if_neg hl1,if_neg (by rw[hcn];omega),if_pos (.inr (.inl ⟨(by rw[hop];decide),(by rw[hop];decide),hz⟩))]),hL.pk [some 0]⟩)
     ·have hz:x.num.isZ=true:=by simpa using hb4
      refine A20 ?_;refine Kp 70 h1 ?_;refine A1 ?_;refine r_know 71 (.bool false) rfl (by rw[hop];rfl) ?_;refine A18 ?_;refine El (ι:=Unit) (fun⟨⟩=>([(0,.pointer (some ⟨gc,0,none⟩)),(4,.pointer (some ⟨g0,0,none⟩)),(9,.int .i64 0)],[VK gc (n+1),gB z.T false,XB g0 z],0)) () ?_ (hL:=Weak.auto);rintro⟨⟩;(try dsimp only);refine A7 ?_;refine r_know 81 (.int .i64 (x.args.length:Nat)) rfl (by rw[h5]) ?_;refine A1 ?_;refine r_know 82 (.bool false) rfl (congrArg Value.bool (decide_eq_false (by omega))) ?_;refine A19 ?_;refine Kp 99 h1 ?_;refine A1 ?_;refine r_know 100 (.bool false) rfl (by rw[hop];rfl) ?_;refine A15 ?_;refine Kp 109 h1 ?_;refine A1 ?_;refine r_know 110 (.bool true) rfl (by rw[hop];rfl) ?_;refine A3 ?_;refine r_know 113 (.string (strU x.name)) rfl (by rw[h2]) ?_;refine Pc (c_law_isName x.name hfn) ?_;refine r_know 114 (.bool (nameL x.name)) rfl (by rw[name_same]) ?_;refine A5 ?_;refine Cd ?_ ?_<;>intro hb6
      ·have hN:nameL x.name=false:=by simpa using hb6
       refine A2 ?_;refine Cd ?_ ?_<;>intro hb7
       ·have hN:nameL x.name=false:=by simpa using hb7
        refine A8 ?_;refine at_end1 rfl (res_tmp rfl) (fun w hL=>⟨(),eI (by unfold mnode nodeE;rw[if_neg hn1,if_neg hl1,if_neg (by rw[hcn];omega),if_neg (fun h=>by
 rcases h with h|⟨ha,hb,h⟩|⟨ha,hb,h⟩
 ·exact h hlen
 ·rw[hz] at h;cases h
 ·exact ha hop),if_neg (fun h=>absurd h.1 (by rw[hop];decide)),if_neg (fun h=>absurd h.1 (by rw[hop];decide)),if_neg (fun h=>absurd h.1 (by rw[hop];decide)),if_pos (.inl ⟨hop,hN⟩)]),hL.pk [some 0]⟩)
       ·have hN:nameL x.name=true:=by simpa using hb7
        refine A9 ?_;refine at_end1 rfl (res_tmp rfl) (fun w hL=>⟨(),eI (by unfold mnode nodeE;rw[if_neg hn1,if_neg hl1,if_neg (by rw[hcn];omega),if_neg (fun h=>by
 rcases h with h|⟨ha,hb,h⟩|⟨ha,hb,h⟩
 ·exact h hlen
 ·rw[hz] at h;cases h
 ·exact ha hop),if_neg (fun h=>absurd h.1 (by rw[hop];decide)),if_neg (fun h=>absurd h.1 (by rw[hop];decide)),if_neg (fun h=>absurd h.1 (by rw[hop];decide)),if_neg (fun h=>by
 rcases h with h|h
 ·rw[hN] at h;cases h.2
 ·exact absurd h.1 (by rw[hop];decide))]),hL.pk [some 0]⟩)
      ·have hN:nameL x.name=true:=by simpa using hb6
       refine A3 ?_;refine Kp 118 h1 ?_;refine A1 ?_;refine r_know 119 (.bool false) rfl (by rw[hop];rfl) ?_;refine A19 ?_;refine at_end1 rfl (res_tmp rfl) (fun w hL=>⟨(),eI (by unfold mnode nodeE;rw[if_neg hn1,if_neg hl1,if_neg (by rw[hcn];omega),if_neg (fun h=>by
 rcases h with h|⟨ha,hb,h⟩|⟨ha,hb,h⟩
 ·exact h hlen
 ·rw[hz] at h;cases h
 ·exact ha hop),if_neg (fun h=>absurd h.1 (by rw[hop];decide)),if_neg (fun h=>absurd h.1 (by rw[hop];decide)),if_neg (fun h=>absurd h.1 (by rw[hop];decide)),if_neg (fun h=>by
 rcases h with h|h
 ·rw[hN] at h;cases h.2
 ·exact absurd h.1 (by rw[hop];decide))]),hL.pk [some 0]⟩)
theorem c_mnode_5{x:XT}(z:XR x)(hfn:x.name.length≤1000000)(hfu:x.num.fit=true)(lv n gc:Nat)(hn:n≤256)(hlv:lv≤1000)(hop:x.op=5):ECall Tryz.prog 90 [VK gc n,gB z.T false] [.pointer (some ⟨gc,0,none⟩),z.v,.int .i64 (lv:Nat)] Unit (fun _=> .int .i64 (mnode x lv n:Nat)) (fun _=>[VK gc (n+1)]):=by
 refine⟨by kernel_rfl,fun B w hD hL0=>?_⟩;obtain⟨h1,h2,h3,h4,h5,h6⟩:=z.inv;have hs:=NumV.fit_cells h3 hfu
 have hcn:cntL x.op=0:=(by rw[hop];rfl);refine cB3 126 Tryz.func90 hL0 ?_;refine A2 ?_;refine Bo [_,_,_,_,_,_,_] 7 (fun g=>[_,_,⟨some g,30,_,7,true⟩]) (fun g0=>?_);refine A9 ?_;refine Ar (((n+1:Nat):Int)) ?_;refine A2 ?_;refine So 0 0 [⟨some gc,73,_,1,true⟩,_,_] [_] ?_;refine A12 ?_;refine Cd ?_ ?_<;>intro hb0
 ·have hn1:256≤n:=by have:=of_decide_eq_true hb0;omega
  refine A7 ?_;refine at_end1 rfl (res_tmp rfl) (fun w hL=>⟨(),eI (by unfold mnode;rw[if_pos hn1]),hL.pk [some 0]⟩)
 ·have hn1:¬256≤n:=by have:=of_decide_eq_false hb0;omega
  refine A9 ?_;refine Cd ?_ ?_<;>intro hb1
  ·have hl1:32<lv:=by have:=of_decide_eq_true hb1;omega
   refine A7 ?_;refine at_end1 rfl (res_tmp rfl) (fun w hL=>⟨(),eI (by unfold mnode;rw[if_neg hn1,if_pos hl1]),hL.pk [some 0]⟩)
  ·have hl1:¬32<lv:=by have:=of_decide_eq_false hb1;omega
   refine A3 ?_;refine at_regionM ?_;refine A2 ?_;refine Kp 26 h1 ?_;refine Gm 0 [] [] (fun _=>[_,_,_]) (c_law_of x.op) (fun _=>?_);refine r_know 27 (.tuple #[.agg #[.int .i64 5,.int .i64 0,.int .i64 8,.string (strU [122,111,110,101])],.bool true]) rfl (by rw[hop];kernel_rfl) ?_;refine A3 ?_;refine r_alloc [_,_,_,_] 4 (fun g=>[_,_,_,⟨some g,94,_,4,true⟩]) rfl rfl z94 rfl rfl (fun _=>rfl) (fun g1=>?_);refine So 3 0 [_,_,_,⟨some g1,94,_,4,true⟩] [_,_,_,_] ?_;refine A19 ?_;refine r_know 34 (.int .i64 (x.args.length:Nat)) rfl (by rw[h5]) ?_;refine A4 ?_;refine Rs 38 ?_ ?_<;>intro hb2
   ·have hlen:((x.args.length:Nat):Int)≠cntL x.op:=by rw[hcn];have hh:=hb2;simpa using hh
    refine A40 ?_;refine at_end1 rfl (res_tmp rfl) (fun w hL=>⟨(),eI (by unfold mnode nodeE;rw[if_neg hn1,if_neg hl1,if_neg (by rw[hcn];omega),if_pos (.inl hlen)]),hL.pk [some 0]⟩)
   ·have hlen:((x.args.length:Nat):Int)=cntL x.op:=by rw[hcn];have hh:=hb2;simpa using hh
    have hl2:x.args.length=0:=(by rw[hcn] at hlen;omega);refine A2 ?_;refine r_know 40 (.string (strU x.name)) rfl (by rw[h2]) ?_;refine A1 ?_;refine r_know 41 (.bool (x.name !=[])) rfl (by rw[show(strU x.name !=⟨#[]⟩)=(strU x.name !=strU []) from rfl,bne,strU_beq];rfl) ?_;refine A1 ?_;refine Rs 42 ?_ ?_<;>intro hb3
    ·have hnm:x.name≠[]:=by simpa using hb3
     refine A2 ?_;refine Kp 44 h1 ?_;refine A1 ?_;refine r_know 45 (.bool true) rfl (by rw[hop];rfl) ?_;refine A4 ?_;refine Kp 49 h1 ?_;refine A1 ?_;refine r_know 50 (.bool false) rfl (by rw[hop];rfl) ?_;refine A4 ?_;refine Ld 2 2 [_,_,_,_] ti27 ?_;refine r_build [] rfl rfl rfl (bd27_0) ?_;refine r_neqAgg rfl rfl rfl rfl gd27 (eq27r _ _ _ _ _ _ _ _) ?_;refine r_know 57 (.bool (!x.num.isZ)) rfl (by rw[NumV.isZ_cells h3]) ?_;refine A1 ?_;refine Rs 58 ?_ ?_<;>intro hb4
     ·have hz:x.num.isZ=false:=by simpa using hb4
      refine A2 ?_;refine Kp 60 h1 ?_;refine A1 ?_;refine r_know 61 (.bool true) rfl (by rw[hop];rfl) ?_;refine A4 ?_;refine Kp 65 h1 ?_;refine A1 ?_;refine r_know 66 (.bool true) rfl (by rw[hop];rfl) ?_;refine A12 ?_;refine at_end1 rfl (res_tmp rfl) (fun w hL=>⟨(),eI (by unfold mnode nodeE;rw[if_neg hn1,if_neg hl1,if_neg (by rw[hcn];omega),if_pos (.inr (.inl ⟨(by rw[hop];decide),(by rw[hop];decide),hz⟩))]),hL.pk [some 0]⟩)
     ·have hz:x.num.isZ=true:=by simpa using hb4
      refine A20 ?_;refine Kp 70 h1 ?_;refine A1 ?_;refine r_know 71 (.bool false) rfl (by rw[hop];rfl) ?_;refine A18 ?_;refine El (ι:=Unit) (fun⟨⟩=>([(0,.pointer (some ⟨gc,0,none⟩)),(4,.pointer (some ⟨g0,0,none⟩)),(9,.int .i64 0)],[VK gc (n+1),gB z.T false,XB g0 z],0)) () ?_ (hL:=Weak.auto);rintro⟨⟩;(try dsimp only);refine A7 ?_;refine r_know 81 (.int .i64 (x.args.length:Nat)) rfl (by rw[h5]) ?_;refine A1 ?_;refine r_know 82 (.bool false) rfl (congrArg Value.bool (decide_eq_false (by omega))) ?_;refine A19 ?_;refine Kp 99 h1 ?_;refine A1 ?_;refine r_know 100 (.bool false) rfl (by rw[hop];rfl) ?_;refine A15 ?_;refine Kp 109 h1 ?_;refine A1 ?_;refine r_know 110 (.bool false) rfl (by rw[hop];rfl) ?_;refine A13 ?_;refine Kp 118 h1 ?_;refine A1 ?_;refine r_know 119 (.bool true) rfl (by rw[hop];rfl) ?_;refine A3 ?_;refine r_know 122 (.string (strU x.name)) rfl (by rw[h2]) ?_;refine Pc (c_law_isZone x.name hfn) ?_;refine A5 ?_;refine Cd ?_ ?_<;>intro hb6
      ·have hZ:zoneL x.name=false:=by simpa using hb6
       refine A8 ?_;refine at_end1 rfl (res_tmp rfl) (fun w hL=>⟨(),eI (by unfold mnode nodeE;rw[if_neg hn1,if_neg hl1,if_neg (by rw[hcn];omega),if_neg (fun h=>by
 rcases h with h|⟨ha,hb,h⟩|⟨ha,hb,h⟩
 ·exact h hlen
 ·rw[hz] at h;cases h
 ·exact hb hop),if_neg (fun h=>absurd h.1 (by rw[hop];decide)),if_neg (fun h=>absurd h.1 (by rw[hop];decide)),if_neg (fun h=>absurd h.1 (by rw[hop];decide)),if_pos (.inr ⟨hop,hZ⟩)]),hL.pk [some 0]⟩)
      ·have hZ:zoneL x.name=true:=by simpa using hb6
       refine A9 ?_;refine at_end1 rfl (res_tmp rfl) (fun w hL=>⟨(),eI (by unfold mnode nodeE;rw[if_neg hn1,if_neg hl1,if_neg (by rw[hcn];omega),if_neg (fun h=>by
 rcases h with h|⟨ha,hb,h⟩|⟨ha,hb,h⟩
 ·exact h hlen
 ·rw[hz] at h;cases h
 ·exact hb hop),if_neg (fun h=>absurd h.1 (by rw[hop];decide)),if_neg (fun h=>absurd h.1 (by rw[hop];decide)),if_neg (fun h=>absurd h.1 (by rw[hop];decide)),if_neg (fun h=>by
 rcases h with h|h
 ·exact absurd h.1 (by rw[hop];decide)
 ·rw[hZ] at h;cases h.2)]),hL.pk [some 0]⟩)
    ·have hnm:x.name=[]:=by simpa using hb3
     refine A12 ?_;refine Ld 2 2 [_,_,_,_] ti27 ?_;refine r_build [] rfl rfl rfl (bd27_0) ?_;refine r_neqAgg rfl rfl rfl rfl gd27 (eq27r _ _ _ _ _ _ _ _) ?_;refine r_know 57 (.bool (!x.num.isZ)) rfl (by rw[NumV.isZ_cells h3]) ?_;refine A1 ?_;refine Rs 58 ?_ ?_<;>intro hb4
     ·have hz:x.num.isZ=false:=by simpa using hb4
      refine A2 ?_;refine Kp 60 h1 ?_;refine A1 ?_;refine r_know 61 (.bool true) rfl (by rw[hop];rfl) ?_;refine A4 ?_;refine Kp 65 h1 ?_;refine A1 ?_;refine r_know 66 (.bool true) rfl (by rw[hop];rfl) ?_;refine A12 ?_;refine at_end1 rfl (res_tmp rfl) (fun w hL=>⟨(),eI (by unfold mnode nodeE;rw[if_neg hn1,if_neg hl1,if_neg (by rw[hcn];omega),if_pos (.inr (.inl ⟨(by rw[hop];decide),(by rw[hop];decide),hz⟩))]),hL.pk [some 0]⟩)
     ·have hz:x.num.isZ=true:=by simpa using hb4
      refine A20 ?_;refine Kp 70 h1 ?_;refine A1 ?_;refine r_know 71 (.bool false) rfl (by rw[hop];rfl) ?_;refine A18 ?_;refine El (ι:=Unit) (fun⟨⟩=>([(0,.pointer (some ⟨gc,0,none⟩)),(4,.pointer (some ⟨g0,0,none⟩)),(9,.int .i64 0)],[VK gc (n+1),gB z.T false,XB g0 z],0)) () ?_ (hL:=Weak.auto);rintro⟨⟩;(try dsimp only);refine A7 ?_;refine r_know 81 (.int .i64 (x.args.length:Nat)) rfl (by rw[h5]) ?_;refine A1 ?_;refine r_know 82 (.bool false) rfl (congrArg Value.bool (decide_eq_false (by omega))) ?_;refine A19 ?_;refine Kp 99 h1 ?_;refine A1 ?_;refine r_know 100 (.bool false) rfl (by rw[hop];rfl) ?_;refine A15 ?_;refine Kp 109 h1 ?_;refine A1 ?_;refine r_know 110 (.bool false) rfl (by rw[hop];rfl) ?_;refine A13 ?_;refine Kp 118 h1 ?_;refine A1 ?_;refine r_know 119 (.bool true) rfl (by rw[hop];rfl) ?_;refine A3 ?_;refine r_know 122 (.string (strU x.name)) rfl (by rw[h2]) ?_;refine Pc (c_law_isZone x.name hfn) ?_;refine A5 ?_;refine Cd ?_ ?_<;>intro hb6
      ·have hZ:zoneL x.name=false:=by simpa using hb6
       refine A8 ?_;refine at_end1 rfl (res_tmp rfl) (fun w hL=>⟨(),eI (by unfold mnode nodeE;rw[if_neg hn1,if_neg hl1,if_neg (by rw[hcn];omega),if_neg (fun h=>by
 rcases h with h|⟨ha,hb,h⟩|⟨ha,hb,h⟩
 ·exact h hlen
 ·rw[hz] at h;cases h
 ·exact hb hop),if_neg (fun h=>absurd h.1 (by rw[hop];decide)),if_neg (fun h=>absurd h.1 (by rw[hop];decide)),if_neg (fun h=>absurd h.1 (by rw[hop];decide)),if_pos (.inr ⟨hop,hZ⟩)]),hL.pk [some 0]⟩)
      ·have hZ:zoneL x.name=true:=by simpa using hb6
       refine A9 ?_;refine at_end1 rfl (res_tmp rfl) (fun w hL=>⟨(),eI (by unfold mnode nodeE;rw[if_neg hn1,if_neg hl1,if_neg (by rw[hcn];omega),if_neg (fun h=>by
 rcases h with h|⟨ha,hb,h⟩|⟨ha,hb,h⟩
 ·exact h hlen
 ·rw[hz] at h;cases h
 ·exact hb hop),if_neg (fun h=>absurd h.1 (by rw[hop];decide)),if_neg (fun h=>absurd h.1 (by rw[hop];decide)),if_neg (fun h=>absurd h.1 (by rw[hop];decide)),if_neg (fun h=>by
 rcases h with h|h
 ·exact absurd h.1 (by rw[hop];decide)
 ·rw[hZ] at h;cases h.2)]),hL.pk [some 0]⟩)
theorem c_mnode_o{x:XT}(z:XR x)(hfn:x.name.length≤1000000)(hfu:x.num.fit=true)(lv n gc:Nat)(hn:n≤256)(hlv:lv≤1000)(hop1:x.op≠1)(hop2:x.op≠2)(hop3:x.op≠3)(hop4:x.op≠4)(hop5:x.op≠5):ECall Tryz.prog 90 [VK gc n,gB z.T false] [.pointer (some ⟨gc,0,none⟩),z.v,.int .i64 (lv:Nat)] Unit (fun _=> .int .i64 (mnode x lv n:Nat)) (fun _=>[VK gc (n+1)]):=by
 refine⟨by kernel_rfl,fun B w hD hL0=>?_⟩;obtain⟨h1,h2,h3,h4,h5,h6⟩:=z.inv;have hs:=NumV.fit_cells h3 hfu;refine cB3 126 Tryz.func90 hL0 ?_;refine A2 ?_;refine Bo [_,_,_,_,_,_,_] 7 (fun g=>[_,_,⟨some g,30,_,7,true⟩]) (fun g0=>?_);refine A9 ?_;refine Ar (((n+1:Nat):Int)) ?_;refine A2 ?_;refine So 0 0 [⟨some gc,73,_,1,true⟩,_,_] [_] ?_;refine A12 ?_;refine Cd ?_ ?_<;>intro hb0
 ·have hn1:256≤n:=by have:=of_decide_eq_true hb0;omega
  refine A7 ?_;refine at_end1 rfl (res_tmp rfl) (fun w hL=>⟨(),eI (by unfold mnode;rw[if_pos hn1]),hL.pk [some 0]⟩)
 ·have hn1:¬256≤n:=by have:=of_decide_eq_false hb0;omega
  refine A9 ?_;refine Cd ?_ ?_<;>intro hb1
  ·have hl1:32<lv:=by have:=of_decide_eq_true hb1;omega
   refine A7 ?_;refine at_end1 rfl (res_tmp rfl) (fun w hL=>⟨(),eI (by unfold mnode;rw[if_neg hn1,if_pos hl1]),hL.pk [some 0]⟩)
  ·have hl1:¬32<lv:=by have:=of_decide_eq_false hb1;omega
   refine A3 ?_;refine at_regionM ?_;refine A2 ?_;refine Kp 26 h1 ?_;rcases hmf:mfind x.op with _|o
   ·have hcn:=cnt_none hmf;refine Gm 0 [] [] (fun _=>[_,_,_]) (c_law_of x.op) (fun _=>?_);refine r_know 27 (.tuple #[.agg #[.int .i64 0,.int .i64 0,.int .i64 0,.string ⟨#[]⟩],.bool false]) rfl (by unfold mofV;rw[hmf]) ?_;refine A3 ?_;refine r_alloc [_,_,_,_] 4 (fun g=>[_,_,_,⟨some g,94,_,4,true⟩]) rfl rfl z94 rfl rfl (fun _=>rfl) (fun g1=>?_);refine So 3 0 [_,_,_,⟨some g1,94,_,4,true⟩] [_,_,_,_] ?_;refine A18 ?_;refine at_end1 rfl (res_tmp rfl) (fun w hL=>⟨(),eI (by unfold mnode nodeE;rw[if_neg hn1,if_neg hl1,if_pos (by rw[hcn];decide)]),hL.pk [some 0]⟩)
   ·have hcn:=cnt_some hmf;have hpos:=cnt_pos hmf hop1 hop3 hop4 hop5;refine Gm 0 [] [] (fun _=>[_,_,_]) (c_law_of x.op) (fun _=>?_);refine r_know 27 (.tuple #[.agg #[.int .i64 (o.1:Nat),.int .i64 (o.2.1:Nat),.int .i64 (o.2.2.1:Nat),.string (strU o.2.2.2)],.bool true]) rfl (by unfold mofV;rw[hmf];rfl) ?_;refine A3 ?_;refine r_alloc [_,_,_,_] 4 (fun g=>[_,_,_,⟨some g,94,_,4,true⟩]) rfl rfl z94 rfl rfl (fun _=>rfl) (fun g1=>?_);refine So 3 0 [_,_,_,⟨some g1,94,_,4,true⟩] [_,_,_,_] ?_;refine A19 ?_;refine r_know 34 (.int .i64 (x.args.length:Nat)) rfl (by rw[h5]) ?_;refine A4 ?_;refine Rs 38 ?_ ?_<;>intro hb3
    ·have hlen:((x.args.length:Nat):Int)≠cntL x.op:=by rw[hcn];have hh:=hb3;simpa using hh
     refine A40 ?_;refine at_end1 rfl (res_tmp rfl) (fun w hL=>⟨(),eI (by unfold mnode nodeE;rw[if_neg hn1,if_neg hl1,if_neg (by rw[hcn];omega),if_pos (.inl hlen)]),hL.pk [some 0]⟩)
    ·have hlen:((x.args.length:Nat):Int)=cntL x.op:=by rw[hcn];have hh:=hb3;simpa using hh
     have hl2:1≤x.args.length:=(by rw[hcn] at hlen;omega);refine A2 ?_;refine r_know 40 (.string (strU x.name)) rfl (by rw[h2]) ?_;refine A1 ?_;refine r_know 41 (.bool (x.name !=[])) rfl (by rw[show(strU x.name !=⟨#[]⟩)=(strU x.name !=strU []) from rfl,bne,strU_beq];rfl) ?_;refine A1 ?_;refine Rs 42 ?_ ?_<;>intro hb4
     ·have hnm:x.name≠[]:=by simpa using hb4
      refine A2 ?_;refine Kp 44 h1 ?_;refine A1 ?_;refine r_know 45 (.bool true) rfl (congrArg Value.bool (by simpa using hop4)) ?_;refine A4 ?_;refine Kp 49 h1 ?_;refine A1 ?_;refine r_know 50 (.bool true) rfl (congrArg Value.bool (by simpa using hop5)) ?_;refine A28 ?_;refine at_end1 rfl (res_tmp rfl) (fun w hL=>⟨(),eI (by unfold mnode nodeE;rw[if_neg hn1,if_neg hl1,if_neg (by rw[hcn];omega),if_pos (.inr (.inr ⟨hop4,hop5,hnm⟩))]),hL.pk [some 0]⟩)
     ·have hnm:x.name=[]:=by simpa using hb4
      refine A12 ?_;refine Ld 2 2 [_,_,_,_] ti27 ?_;refine r_build [] rfl rfl rfl (bd27_0) ?_;refine r_neqAgg rfl rfl rfl rfl gd27 (eq27r _ _ _ _ _ _ _ _) ?_;refine r_know 57 (.bool (!x.num.isZ)) rfl (by rw[NumV.isZ_cells h3]) ?_;refine A1 ?_;refine Rs 58 ?_ ?_<;>intro hb5
      ·have hz:x.num.isZ=false:=by simpa using hb5
       refine A2 ?_;refine Kp 60 h1 ?_;refine A1 ?_;refine r_know 61 (.bool true) rfl (congrArg Value.bool (by simpa using hop1)) ?_;refine A4 ?_;refine Kp 65 h1 ?_;refine A1 ?_;refine r_know 66 (.bool true) rfl (congrArg Value.bool (by simpa using hop3)) ?_;refine A12 ?_;refine at_end1 rfl (res_tmp rfl) (fun w hL=>⟨(),eI (by unfold mnode nodeE;rw[if_neg hn1,if_neg hl1,if_neg (by rw[hcn];omega),if_pos (.inr (.inl ⟨hop1,hop3,hz⟩))]),hL.pk [some 0]⟩)
      ·have hz:x.num.isZ=true:=by simpa using hb5
       refine A20 ?_;refine Kp 70 h1 ?_;refine A1 ?_;refine r_know 71 (.bool false) rfl (congrArg Value.bool (by simpa using hop1)) ?_;refine A18 ?_;refine El (ι:=Unit) (fun⟨⟩=>([(0,.pointer (some ⟨gc,0,none⟩)),(4,.pointer (some ⟨g0,0,none⟩)),(9,.int .i64 0)],[VK gc (n+1),gB z.T false,XB g0 z],0)) () ?_ (hL:=Weak.auto);rintro⟨⟩;(try dsimp only);refine A7 ?_;refine r_know 81 (.int .i64 (x.args.length:Nat)) rfl (by rw[h5]) ?_;refine A1 ?_;refine r_know 82 (.bool true) rfl (congrArg Value.bool (decide_eq_true (by omega))) ?_;refine A3 ?_;refine Kp 85 h1 ?_;refine A1 ?_;refine r_know 86 (.bool false) rfl (congrArg Value.bool (by simpa using hop2)) ?_;refine A15 ?_;refine Kp 99 h1 ?_;refine A1 ?_;refine r_know 100 (.bool false) rfl (congrArg Value.bool (by simpa using hop3)) ?_;refine A15 ?_;refine Kp 109 h1 ?_;refine A1 ?_;refine r_know 110 (.bool false) rfl (congrArg Value.bool (by simpa using hop4)) ?_;refine A13 ?_;refine Kp 118 h1 ?_;refine A1 ?_;refine r_know 119 (.bool false) rfl (congrArg Value.bool (by simpa using hop5)) ?_;refine A19 ?_;refine at_end1 rfl (res_tmp rfl) (fun w hL=>⟨(),eI (by unfold mnode nodeE;rw[if_neg hn1,if_neg hl1,if_neg (by rw[hcn];omega),if_neg (fun h=>by
 rcases h with h|⟨ha,hb,h⟩|⟨ha,hb,h⟩
 ·exact h hlen
 ·rw[hz] at h;cases h
 ·exact h hnm),if_neg (fun h=>absurd h.1 hop1),if_neg (fun h=>absurd h.1 hop2),if_neg (fun h=>absurd h.1 hop3),if_neg (fun h=>by
 rcases h with h|h
 ·exact absurd h.1 hop4
 ·exact absurd h.1 hop5)]),hL.pk [some 0]⟩)
theorem c_mnode{x:XT}(z:XR x)(hfn:x.name.length≤1000000)(hfu:x.num.fit=true)(lv n gc:Nat)(hn:n≤256)(hlv:lv≤1000):
 ECall Tryz.prog 90 [VK gc n,gB z.T false] [.pointer (some ⟨gc,0,none⟩),z.v,.int .i64 (lv:Nat)] Unit (fun _=> .int .i64 (mnode x lv n:Nat)) (fun _=>[VK gc (n+1)]):=by
 by_cases h1:x.op=1
 ·exact c_mnode_1 z hfn hfu lv n gc hn hlv h1
 by_cases h2:x.op=2
 ·exact c_mnode_2 z hfn hfu lv n gc hn hlv h2
 by_cases h3:x.op=3
 ·exact c_mnode_3 z hfn hfu lv n gc hn hlv h3
 by_cases h4:x.op=4
 ·exact c_mnode_4 z hfn hfu lv n gc hn hlv h4
 by_cases h5:x.op=5
 ·exact c_mnode_5 z hfn hfu lv n gc hn hlv h5
 exact c_mnode_o z hfn hfu lv n gc hn hlv h1 h2 h3 h4 h5
def MckC(y:XT):Prop:=∀(u:XR y),y.fit=true→∀lv n gc:Nat,n≤256→lv≤1000→
 ECall Tryz.prog 50 [VK gc n,gB u.T false] [.pointer (some ⟨gc,0,none⟩),u.v,.int .i64 (lv:Nat)] Unit (fun _=> .int .i64 ((mch y lv n).1:Nat)) (fun _=>[VK gc (mch y lv n).2])
theorem c_mexpr_step{x:XT}(z:XR x)(hf:x.fit=true)(H:∀y:XT,y.size<x.size→MckC y)(lv n gc:Nat)(hn:n≤256)(hlv:lv≤1000):ECall Tryz.prog 50 [VK gc n,gB z.T false] [.pointer (some ⟨gc,0,none⟩),z.v,.int .i64 (lv:Nat)] Unit (fun _=> .int .i64 ((mch x lv n).1:Nat)) (fun _=>[VK gc (mch x lv n).2]):=by
 refine⟨by kernel_rfl,fun B w hD hL0=>?_⟩;obtain⟨h1,h2,h3,h4,h5,h6⟩:=z.inv;have hfp:=XT.fit_parts hf;refine cB3 34 Tryz.func50 hL0 ?_;refine A2 ?_;refine Bo [_,_,_,_,_,_,_] 7 (fun g=>[_,_,⟨some g,30,_,7,true⟩]) (fun g0=>?_);refine A4 ?_;refine at_regionM ?_;refine A1 ?_;refine Ld 2 0 [_,_,_,_,_,_,_] ti30 ?_;refine Kr 10 (z.v) ?_;refine A1 ?_;refine Gm 1 [0] [1] (fun _=>[VK gc (n+1),_,_]) (c_mnode z hfp.1 hfp.2.1 lv n gc hn hlv) (fun _=>?_);refine A10 ?_;refine El (ι:={q:Nat×Nat×Nat // q.1≤x.args.length∧(q.2.2≠0→mch x lv n=(q.2.2,q.2.1))∧(q.2.2=0→q.2.1≤256∧lv≤32∧x.args.length≤3∧mch x lv n=mchs (x.args.drop q.1) (lv+1) q.2.1)}) (fun⟨⟨i,m,e⟩,hi,hI1,hI2⟩=>([(0,.pointer (some ⟨gc,0,none⟩)),(2,.int .i64 (lv:Nat)),(4,.pointer (some ⟨g0,0,none⟩)),(7,.int .i64 (e:Nat)),(8,.int .i64 (i:Nat))],[VK gc m,gB z.T false,XB g0 z],x.args.length-i)) ⟨(0,n+1,mnode x lv n),Nat.zero_le _,fun h=>by rw[mch_eq,if_pos h],fun h=>⟨by have:=mnode_0 h;show n+1≤256;omega,(mnode_0 h).2.1,nodeE_len (mnode_0 h).2.2,by have h:mnode x lv n=0:=h;rw[mch_eq,if_neg (by rw[h];simp),List.drop_zero]⟩⟩ ?_ (hL:=Weak.auto);rintro⟨⟨i,m,e⟩,hi,hI1,hI2⟩;(try dsimp only);dsimp only at hi hI1 hI2;refine A7 ?_;refine r_know 16 (.int .i64 (x.args.length:Nat)) rfl (by rw[h5]) ?_;refine A2 ?_;refine Rs 18 ?_ ?_<;>intro hb1
 ·have hlt:i<x.args.length:=by have:=of_decide_eq_true hb1;omega
  obtain⟨y,hy⟩:∃y,x.args[i]? =some y:=⟨x.args[i],List.getElem?_eq_getElem hlt⟩;obtain⟨ga,oa,ca,u,hza,hma,hra,hTa,hna⟩:=z.arg hy;have hfy:y.fit=true:=XT.fits_get hfp.2.2 hy;refine A5 ?_;refine Cd ?_ ?_<;>intro hb2
  ·have he:e=0:=by have hh:=hb2;simpa using hh
   obtain⟨hm,hl32,hal,hE⟩:=hI2 he;refine A4 ?_;refine at_regionM ?_;refine A4 ?_;refine r_indexAddrG (gg:=ga) (len:=z.n) (cap:=z.cap) (oa+i*7) u28 ti30 rfl rfl (congrArg (fun a=>some (Value.slice a z.n z.cap)) hza) rfl (by omega) (by omega) (by show oa+Int.toNat _*7=_;omega) ?_;refine r_loadT (v:=u.v) 1 (oa+i*7) u.cs rfl rfl rfl z.hT hma hna rfl ti30 hra rfl rfl rfl ?_;refine A1 ?_;refine Ar (((lv+1:Nat):Int)) ?_;refine Gm 1 [0] [1] (fun _=>[VK gc (mch y (lv+1) m).2,_,_]) (by have h:=H y (XT.arg_lt hy) u hfy (lv+1) m gc hm (by omega);rw[hTa] at h;exact h) (fun _=>?_);refine A6 ?_;refine Ar (((i+1:Nat):Int)) ?_;refine A3 ?_;exact Nl ⟨(i+1,(mch y (lv+1) m).2,(mch y (lv+1) m).1),hlt,fun h=>by rw[hE,mchs_step hy,if_pos h],fun h=>⟨mch_le0 y (lv+1) m hm h,hl32,hal,by have h:(mch y (lv+1) m).1=0:=h;rw[hE,mchs_step hy,if_neg (by omega)]⟩⟩ (hL:=Weak.auto)
  ·have he:e≠0:=by have hh:=hb2;simpa using hh
   refine A12 ?_;refine at_end1 rfl (res_tmp rfl) (fun w hL=>by
 have ee:mch x lv n=(e,m):=hI1 he;rw[ee];exact⟨(),rfl,hL.pk [some 0]⟩)
 ·have hge:i=x.args.length:=by have:=of_decide_eq_false hb1;omega
  refine A18 ?_;refine at_end1 rfl (res_tmp rfl) (fun w hL=>by
 have ee:mch x lv n=(e,m):=by
  by_cases h0:e=0
  ·obtain⟨hm,hl32,hal,hE⟩:=hI2 h0;rw[hE,hge,List.drop_length,mchs,h0]
  ·exact hI1 h0
 rw[ee];exact⟨(),rfl,hL.pk [some 0]⟩)
theorem c_mexpr(x:XT)(u:XR x)(hf:x.fit=true)(lv n gc:Nat)(hn:n≤256)(hl:lv≤1000):
 ECall Tryz.prog 50 [VK gc n,gB u.T false] [.pointer (some ⟨gc,0,none⟩),u.v,.int .i64 (lv:Nat)] Unit (fun _=> .int .i64 ((mch x lv n).1:Nat)) (fun _=>[VK gc (mch x lv n).2]):=
 byS (p:=MckC) (fun x H u hf lv n gc hn hl=>c_mexpr_step u hf H lv n gc hn hl) x u hf lv n gc hn hl
theorem c_mcheckExpr{x:XT}(z:XR x)(hf:x.fit=true):ECall Tryz.prog 19 [gB z.T false] [z.v] Unit (fun _=> .int .i64 (chkE x:Nat)) (fun _=>[]):=by
 refine⟨by kernel_rfl,fun B w hD hL0=>?_⟩;refine cB1 9 Tryz.func19 hL0 ?_;refine A2 ?_;refine Bo [_,_,_,_,_,_,_] 7 (fun g=>[_,⟨some g,30,_,7,true⟩]) (fun g0=>?_);refine A5 ?_;refine r_build [] rfl rfl rfl (bd73_0) ?_;refine Bo [_] 1 (fun g=>[_,_,⟨some g,73,_,1,true⟩]) (fun g1=>?_);refine A4 ?_;refine at_regionM ?_;refine A1 ?_;refine Ld 1 0 [_,_,_,_,_,_,_] ti30 ?_;refine Kr 7 (z.v) ?_;refine Gm 1 [2] [0] (fun _=>[_,_,VK g1 (mch x 1 0).2]) (c_mexpr x z hf 1 0 g1 (by decide) (by decide)) (fun _=>?_);refine A4 ?_;refine at_end1 rfl (res_tmp rfl) (fun w hL=>⟨(),eI (mch_chk x 1 0).1,hL.pk []⟩)
end Go.Proofs.YtfijbadahkmhbaaGreatDoor
