/-
  Part 12 (chapter 43): lemmas, walks. Each theorem states its own conditions.
-/
import Derived.Lib.Replace
import Derived.Test.YtfijbadahkmhbaaGreatDoorA04
import Derived.Test.YtfijbadahkmhbaaGreatDoorA07
import Derived.Test.YtfijbadahkmhbaaGreatDoorA09
import Derived.Test.YtfijbadahkmhbaaGreatDoorA10
import Derived.Test.YtfijbadahkmhbaaGreatDoorA11
set_option linter.unusedVariables false
set_option linter.unusedSimpArgs false
set_option maxRecDepth 20000
set_option maxHeartbeats 20000000
namespace Go.Proofs.YtfijbadahkmhbaaGreatDoor
open Go Go.RowKit Go.Via
theorem c_list_step{x:XT}(z:XR x)(m:Int)(H:∀y:XT,y.size<x.size→WriC m y)(hok:okX x)(hf:x.fit=true)(hM:x.size≤1000000000)(op en:Bs8)(g:Nat)(a:Bool)(d:Bd)(hd:d.ok)(hb:d.s.length+(op++joinC (txtLs x.args)++en).length≤17179869184):ECall Tryz.prog 126 [BB g a d,BF d,gB z.T false,GM m] [.pointer (some ⟨g,0,none⟩),.string (strU op),.slice z.a z.n z.cap,.string (strU en)] (BdX (d.s++(op++joinC (txtLs x.args)++en))) (fun _=> .tuple #[]) (fun d'=>[BB g true d'.1,BF d'.1]):=by
 refine⟨by kernel_rfl,fun B w hD hL0=>?_⟩;obtain⟨h1,h2,h3,h4,h5,h6⟩:=z.inv;have hsz:=x.size_eq;have hal:=XT.len_sizes x.args;have hjl:=joinC_take_le x.args;have hks:=(okX_parts hok).2;refine cB4 31 Tryz.func126 hL0 ?_;refine A1 ?_;refine at_regionM ?_;refine A2 ?_;refine Gm 2 [0,1] [] (fun d1=>[BB g true d1.1,BF d1.1,_,_]) (c_b_WriteString g a d op hd (by rw[List.length_append,List.length_append] at hb;omega)) (fun⟨d1,hd1,e1⟩=>?_);refine A11 ?_;refine El (ι:={r:Nat×Bd // r.1≤x.args.length∧r.2.ok∧r.2.s=d.s++op++joinC ((txtLs x.args).take r.1)}) (fun⟨⟨i,q⟩,hi,hq,hs⟩=>([(0,.pointer (some ⟨g,0,none⟩)),(3,.string (strU en)),(13,.slice z.a z.n z.cap),(14,.int .i64 (z.n:Nat)),(15,.int .i64 (i:Nat))],[BB g true q,BF q,gB z.T false,GM m],x.args.length-i)) ⟨(0,d1),Nat.zero_le _,hd1,by rw[e1];simp[joinC]⟩ ?_ (hL:=Weak.auto);rintro⟨⟨i,q⟩,hi,hq,hs⟩;(try dsimp only);dsimp only at hi hq hs;refine A6 ?_;refine Cd ?_ ?_<;>intro hb1
 ·have hlt:i<x.args.length:=by have:=of_decide_eq_true hb1;omega
  obtain⟨y,hy⟩:∃y,x.args[i]? =some y:=⟨x.args[i],List.getElem?_eq_getElem hlt⟩;obtain⟨ga,oa,ca,u,hza,hma,hra,hTa,hna⟩:=z.arg hy;have hst:=joinC_step hy;have hjl1:=hjl (i+1);have hjs:=congrArg List.length hst;simp only[List.length_append] at hjs hb;refine A7 ?_;refine r_indexAddrG (gg:=ga) (len:=z.n) (cap:=z.cap) (oa+i*7) u28 ti30 rfl rfl (congrArg (fun a=>some (Value.slice a z.n z.cap)) hza) rfl (by omega) (by omega) (by show oa+Int.toNat _*7=_;omega) ?_;refine r_loadT (v:=u.v) 2 (oa+i*7) u.cs rfl rfl rfl z.hT hma hna rfl ti30 hra rfl rfl rfl ?_;refine r_alloc [_,_,_,_,_,_,_] 7 (fun g=>[_,_,_,_,⟨some g,30,_,7,true⟩]) rfl rfl z30 rfl rfl (fun _=>rfl) (fun g0=>?_);refine A1 ?_;refine So 4 0 [_,_,_,_,⟨some g0,30,_,7,true⟩] [_,_,_,_,_,_,_] ?_;refine A9 ?_;refine Cd ?_ ?_<;>intro hb2
  ·have hi0:i≠0:=by have:=of_decide_eq_true hb2;omega
   have hsp:sepS i=[44,32]:=if_neg hi0;rw[hsp] at hst hjs;have hjs:_=_+2+_:=hjs;refine at_regionM ?_;refine A1 ?_;refine r_gcallM (A:=[BB g true q,BF q]) (C:=[]) [.pointer (some ⟨g,0,none⟩),.string (strU [44,32])] [0,1] [] (fun d1=>[BB g true d1.1,BF d1.1,_,_,_]) rfl rfl rfl rfl (c_b_WriteString g true q [44,32] hq (by simp only[hs,List.length_append];show _+2≤_;omega)) (by decide) rfl rfl trivial rfl rfl (fun _=>rfl) (fun _=>allOwn rfl) (fun _=>rfl) (fun⟨d2,hd2,e2⟩=>?_);refine A2 ?_;have hB2:d2.s.length+(txt y 1).length≤17179869184:=(by rw[e2,hs];simp only[List.length_append];show _+2+_≤_;omega);refine at_regionM ?_;refine A1 ?_;refine Ld 4 0 [_,_,_,_,_,_,_] ti30 ?_;refine Kr 25 (u.v) ?_;refine Gm 2 [0,1] [2,3] (fun(d3:BdX (d2.s++txt y 1))=>[BB g true d3.1,BF d3.1,_,_,_]) (by have h:=H y (XT.arg_lt hy) u 1 g true d2 hd2 (okXs_get hks hy) (XT.fits_get (XT.fit_parts hf).2.2 hy) (Nat.le_trans (Nat.le_of_lt (XT.arg_lt hy)) hM) (by decide) hB2;rw[hTa] at h;exact h) (fun⟨d3,hd3,e3⟩=>?_);refine A4 ?_;refine Ar (((i+1:Nat):Int)) ?_;refine A3 ?_;exact Nl ⟨(i+1,d3),hlt,hd3,by rw[e3,e2,hs,hst];simp only[List.append_assoc]⟩ (hL:=Weak.auto)
  ·have hi0:i=0:=by have:=of_decide_eq_false hb2;omega
   have hsp:sepS i=[]:=if_pos hi0;rw[hsp] at hst hjs;have hjs:_=_+0+_:=hjs;refine A2 ?_;have hB2:q.s.length+(txt y 1).length≤17179869184:=(by rw[hs];simp only[List.length_append];omega);refine at_regionM ?_;refine A1 ?_;refine Ld 4 0 [_,_,_,_,_,_,_] ti30 ?_;refine Kr 25 (u.v) ?_;refine Gm 2 [0,1] [2,3] (fun(d3:BdX (q.s++txt y 1))=>[BB g true d3.1,BF d3.1,_,_,_]) (by have h:=H y (XT.arg_lt hy) u 1 g true q hq (okXs_get hks hy) (XT.fits_get (XT.fit_parts hf).2.2 hy) (Nat.le_trans (Nat.le_of_lt (XT.arg_lt hy)) hM) (by decide) hB2;rw[hTa] at h;exact h) (fun⟨d3,hd3,e3⟩=>?_);refine A4 ?_;refine Ar (((i+1:Nat):Int)) ?_;refine A3 ?_;exact Nl ⟨(i+1,d3),hlt,hd3,by rw[e3,hs,hst];simp only[List.append_assoc,List.append_nil,List.nil_append]⟩ (hL:=Weak.auto)
 ·have hge:i=x.args.length:=by have:=of_decide_eq_false hb1;omega
  refine A5 ?_;refine at_regionM ?_;refine A2 ?_;refine Gm 2 [0,1] [] (fun d1=>[BB g true d1.1,BF d1.1,_,_]) (c_b_WriteString g true q en hq (by simp only[hs,hge,txtLs_all,List.length_append] at hb ⊢;omega)) (fun⟨d2,hd2,e2⟩=>?_);refine A1 ?_
  refine at_end0n rfl (fun w hL=>⟨⟨d2,hd2,by rw[e2,hs,hge,txtLs_all];simp only[List.append_assoc]⟩,rfl,hL.pk [some 0,some 1]⟩)
end Go.Proofs.YtfijbadahkmhbaaGreatDoor
namespace Go.Via
open Go Go.RowKit
theorem quoS_none:∀(s:Bs8),s.count 34=0→quoS s=s
 |[],_=>rfl
 |c::s,h=>by
  have hc:c≠34:=fun e=>by subst e;simp at h
  have h2:s.count 34=0:=by rw[List.count_cons] at h;omega
  have ih:=quoS_none s h2
  unfold quoS at ih ⊢
  rw[List.flatMap_cons,ih,if_neg hc];rfl
theorem quoS_cons(c:UInt8)(s:Bs8):quoS (c::s)=(if c=34 then[34,34] else[c])++quoS s:=by
 unfold quoS;rw[List.flatMap_cons]
theorem replaceK_quo:∀(s:Bs8) (k:Nat),s.count 34≤k→Lib.replaceK [34] [34,34] k s=quoS s
 |s,0,h=>by rw[Lib.replaceK,quoS_none s (by omega)]
 |[],k+1,h=>by rw[Lib.replaceK];rfl
 |c::s,k+1,h=>by
  rw[quoS_cons]
  by_cases hc:c=34
  ·subst hc
   have h0:Lib.index (34::s) [34]=(0:Nat):=by rw[Lib.index_one,Lib.indexByte];rfl
   rw[Lib.replaceK_hit _ _ _ _ 0 h0,if_pos rfl]
   have h2:s.count 34≤k:=by rw[List.count_cons_self] at h;omega
   have ih:=replaceK_quo s k h2
   show[]++[34,34]++Lib.replaceK [34] [34,34] k s=_
   rw[ih];rfl
  ·have h2:s.count 34≤k+1:=by rw[List.count_cons] at h;omega
   have ih:=replaceK_quo s (k+1) h2
   rw[if_neg hc,←ih,Lib.replaceK,Lib.replaceK,Lib.index_one,Lib.index_one,Lib.indexByte]
   have hc2:(c==34)=false:=by simpa using hc
   rw[hc2]
   have hge:=Lib.indexByte_ge s 34
   by_cases hm:Lib.indexByte s 34= -1
   ·rw[hm];rfl
   ·have hm2:(Lib.indexByte s 34== -1)=false:=by simpa using hm
    obtain⟨i,hi⟩:∃i:Nat,Lib.indexByte s 34=i:=⟨(Lib.indexByte s 34).toNat,by omega⟩
    have hm3:(Lib.indexByte s 34+1== -1)=false:=by rw[hi];simp;omega
    simp only[hm2,hm3,Bool.false_eq_true,if_false]
    rw[hi]
    have e1:((i:Int)+1).toNat=i+1:=by omega
    have e2:(i:Int).toNat=i:=by omega
    rw[e1,e2]
    simp[Nat.add_right_comm]
theorem replaceAll_quo(s:Bs8):Lib.replaceAll s [34] [34,34]=quoS s:=by
 have h:([34]==([34,34]:List UInt8))=false:=rfl
 rw[Lib.replaceAll,Lib.replace,h]
 simp only[Bool.false_eq_true,if_false]
 refine replaceK_quo s _ ?_
 unfold Lib.replaceNum
 rw[if_pos (.inl (by decide)),Lib.count_one]
 exact Nat.le_refl _
end Go.Via
namespace Go.Proofs.YtfijbadahkmhbaaGreatDoor
open Go Go.RowKit Go.Via
theorem c_ReplaceAll(m:Int)(s:Bs8)(hs:s.length≤1000000):SCall Tryz.prog 125 [GM m] [.string (strU s),.string (strU [34]),.string (strU [34,34])] Unit (fun _=> .string (strU (quoS s))) (fun _=>[]):=by
 refine⟨by kernel_rfl,fun w hL=>?_⟩
 have hm:w.cell? ⟨0,0,none⟩=some (.int .i64 m):=by
  obtain⟨g',hg',h2⟩:=hL.cell (k:=0) (j:=0) rfl (v:= .int .i64 m) rfl
  cases hg'
  exact h2
 have hcnt:Lib.countB (strU s) (strU [34])=s.count 34:=by
  show Lib.count (strU s).data.toList (strU [34]).data.toList=_
  simp only[strU]
  exact Lib.count_one 34 s
 have hc2:=List.count_le_length (a:=(34:UInt8)) (l:=s)
 have hsz:(strU s).size=s.length:=rfl
 have h1:=Tryz.strings_ReplaceAll (strU s) (strU [34]) (strU [34,34]) m w (by rw[hsz];omega) hm (Nat.le_refl _) (by rw[hcnt,hsz,show(strU [34,34]).size=2 from rfl];omega)
 refine Calls.mono h1 ?_
 rintro e w' ⟨rfl,hb⟩
 refine⟨(),?_,(LRel.nil w).same hb⟩
 show _=Ending.returned (Value.string (strU (quoS s)))
 rw[←replaceAll_quo]
 rfl
end Go.Proofs.YtfijbadahkmhbaaGreatDoor
namespace Go.Via
open Go Go.RowKit
theorem NumV.isId_ok{u:NumV}(h:u.isId=true):u.ok=true:=by
 cases u with
 |q r=>rfl
 |raw b1 s1 b2 s2=>
  unfold NumV.isId at h
  obtain⟨q,hq,_⟩:= @of_decide_eq_true _ (Classical.propDecidable _) h
  show isQ b1 s1 b2 s2=true
  unfold isQ
  exact @decide_eq_true _ (Classical.propDecidable _) ⟨q,hq⟩
theorem NumV.rat_ok{u:NumV}{b1 b2:Bool}{s1 s2:ByteArray}(h:u.cells=[.bool b1,.string s1,.bool b2,.string s2])(hf:u.fit=true)(ho:u.ok=true):(.agg #[.bool b1,.string s1,.bool b2,.string s2]:Value)=Q u.rat∧szQ u.rat≤1000000:=by
 have h1:=NumV.rat_cells h ho
 refine⟨h1,?_⟩
 obtain⟨q,e1,e2,e3,e4,_,h6⟩:=NumV.isId_yes h hf ho
 have e:Value.agg #[.bool b1,.string s1,.bool b2,.string s2]=Q q:=by rw[e1,e2,e3,e4];rfl
 rw[←Q_inj8 (e.symm.trans h1)]
 exact h6
theorem nodeE_num{x:XT}(h:nodeE x=0):(x.op=1→x.num.ok=true)∧(x.op=3→x.num.ok=true):=by
 unfold nodeE at h
 split at h
 ·cases h
 split at h
 ·cases h
 split at h
 ·cases h
 rename_i h1
 split at h
 ·cases h
 split at h
 ·cases h
 rename_i h3
 refine⟨fun e=>?_,fun e=>NumV.isId_ok ?_⟩
 ·cases hh:x.num.ok with
  |true=>rfl
  |false=>exact absurd ⟨e,hh⟩ h1
 ·cases hh:x.num.isId with
  |true=>rfl
  |false=>exact absurd ⟨e,hh⟩ h3
def sw6(o:Int):Prop:=o=1∨o=4∨o=3∨o=5∨o=6∨o=2
noncomputable def swS(x:XT):Bs8:=
 if x.op=1 then ratS x.num.rat else if x.op=4 then x.name else if x.op=3 then sObject++ratS x.num.rat++[41] else if x.op=5 then sZone++quoS x.name++[34,41]
 else if x.op=6 then[91]++joinC (txtLs x.args)++[93] else if x.op=2 then sPoint++joinC (txtLs x.args)++[41] else[]
noncomputable def fnL(x:XT)(L:List (Bs8×Nat×Nat)):Bs8:=L.flatMap fun f=>if(f.2.1:Int)=x.op then(f.1++[40])++joinC (txtLs x.args)++[41] else[]
theorem fnL_step(x:XT){L:List (Bs8×Nat×Nat)}{i:Nat}{o:Bs8×Nat×Nat}(h:L[i]? =some o):fnL x (L.take (i+1))=fnL x (L.take i)++(if(o.2.1:Int)=x.op then(o.1++[40])++joinC (txtLs x.args)++[41] else[]):=by
 have hlt:=(List.getElem?_eq_some_iff.1 h).1
 rw[List.take_add_one,h]
 unfold fnL
 rw[List.flatMap_append]
 simp
theorem fnL_le(x:XT)(L:List (Bs8×Nat×Nat))(i:Nat):(fnL x (L.take i)).length≤(fnL x L).length:=by
 have h:fnL x L=fnL x (L.take i)++fnL x (L.drop i):=by
  conv=>lhs;rw[←List.take_append_drop i L]
  unfold fnL
  rw[List.flatMap_append]
 rw[h,List.length_append]
 omega
theorem fnL_none(x:XT)(L:List (Bs8×Nat×Nat))(h:∀f∈L,(f.2.1:Int)≠x.op):fnL x L=[]:=by
 unfold fnL
 rw[List.flatMap_eq_nil_iff]
 intro f hf
 rw[if_neg (h f hf)]
theorem fnL_one(x:XT):∀(L:List (Bs8×Nat×Nat)) (f:Bs8×Nat×Nat),(L.map (fun o=>o.2.1)).Nodup→L.find? (fun f=>decide ((f.2.1:Int)=x.op))=some f→fnL x L=(f.1++[40])++joinC (txtLs x.args)++[41]
 |[],f,_,h=>by simp at h
 |o::L,f,hn,h=>by
  rw[List.map_cons,List.nodup_cons] at hn
  have e:fnL x (o::L)=(if(o.2.1:Int)=x.op then(o.1++[40])++joinC (txtLs x.args)++[41] else[])++fnL x L:=by unfold fnL;rw[List.flatMap_cons]
  rw[e]
  by_cases ho:(o.2.1:Int)=x.op
  ·rw[List.find?_cons_of_pos (by simpa using ho)] at h
   cases h
   rw[if_pos ho,fnL_none x L (fun g hg hgo=>hn.1 (List.mem_map.2 ⟨g,hg,by omega⟩)),List.append_nil]
  ·rw[List.find?_cons_of_neg (by simpa using ho)] at h
   rw[if_neg ho,List.nil_append]
   exact fnL_one x L f hn.2 h
theorem txt_leaf{x:XT}(h:opsT.find? (fun f=>decide ((f.2.1:Int)=x.op))=none)(lv:Nat):txt x lv=swS x++fnL x funT:=by
 cases x with
 |mk o nm u l=>
  have hop:(XT.mk o nm u l).op=o:=rfl
  rw[hop] at h
  rw[txt,h]
  have hsm:∀k:Int,o=k→(∀f∈funT,(f.2.1:Int)≠k)→fnL (.mk o nm u l) funT=[]:=fun k hk hf=>fnL_none _ _ (by rw[hop,hk];exact hf)
  unfold swS
  rw[hop]
  by_cases h1:o=1
  ·rw[hsm 1 h1 (by decide)];simp only[if_pos h1,List.append_nil];rfl
  by_cases h4:o=4
  ·rw[hsm 4 h4 (by decide)];simp only[if_neg h1,if_pos h4,List.append_nil];rfl
  by_cases h3:o=3
  ·rw[hsm 3 h3 (by decide)];simp only[if_neg h1,if_neg h4,if_pos h3,List.append_nil];rfl
  by_cases h5:o=5
  ·rw[hsm 5 h5 (by decide)];simp only[if_neg h1,if_neg h4,if_neg h3,if_pos h5,List.append_nil];rfl
  by_cases h6:o=6
  ·rw[hsm 6 h6 (by decide)];simp only[if_neg h1,if_neg h4,if_neg h3,if_neg h5,if_pos h6,List.append_nil];rfl
  by_cases h2:o=2
  ·rw[hsm 2 h2 (by decide)];simp only[if_neg h1,if_neg h4,if_neg h3,if_neg h5,if_neg h6,if_pos h2,List.append_nil];rfl
  simp only[if_neg h1,if_neg h4,if_neg h3,if_neg h5,if_neg h6,if_neg h2,List.nil_append]
  cases hf:funT.find? (fun f=>decide ((f.2.1:Int)=o)) with
  |none=>
   dsimp only
   exact(fnL_none _ _ (fun f hm he=>by have:=List.find?_eq_none.1 hf f hm;exact this (by rw[hop] at he;simpa using he))).symm
  |some f=>
   dsimp only
   exact(fnL_one (.mk o nm u l) funT f (by decide) hf).symm
end Go.Via
namespace Go.Proofs.YtfijbadahkmhbaaGreatDoor
open Go Go.RowKit Go.Via
theorem c_write_leaf{x:XT}(z:XR x)(m:Int)(H:∀y:XT,y.size<x.size→WriC m y)(hok:okX x)(hf:x.fit=true)(hM:x.size≤1000000000)(lv g:Nat)(a:Bool)(d:Bd)(hd:d.ok)(hop:opsT.find? (fun f=>decide ((f.2.1:Int)=x.op))=none)(hkind:¬sw6 x.op→funT.find? (fun f=>decide ((f.2.1:Int)=x.op))≠none)(hb:d.s.length+(swS x++fnL x funT).length≤17179869184):ECall Tryz.prog 96 [BB g a d,BF d,gB z.T false,GM m] [.pointer (some ⟨g,0,none⟩),z.v,.int .i64 (lv:Nat)] (BdX (d.s++(swS x++fnL x funT))) (fun _=> .tuple #[]) (fun d'=>[BB g true d'.1,BF d'.1]):=by
 refine⟨by kernel_rfl,fun B w hD hL0=>?_⟩;obtain⟨hfn,hfu,hfs⟩:=XT.fit_parts hf;have hnum:=nodeE_num (okX_parts hok).1;refine calls_atD (args:=[.pointer (some ⟨g,0,none⟩),z.v,.int .i64 (lv:Nat)]) Tryz.func96 rfl (Nat.le_of_ble_eq_true rfl) hL0 ?_;show At B ⟨136,[(0,.pointer (some ⟨g,0,none⟩)),(1,z.v),(2,.int .i64 (lv:Nat))],[BB g a d,BF d,gB z.T false,GM m]⟩ _;refine A2 ?_;refine Bo [_,_,_,_,_,_,_] 7 (fun g=>[_,_,_,_,⟨some g,30,_,7,true⟩]) (fun g0=>?_);refine A5 ?_;refine r_scall [] [] rfl rfl rfl c_syntax_operators trivial rfl (.inr fun _ b hb=>by rw[List.mem_singleton.1 hb]) (fun go=>?_);refine A5 ?_;refine El (ι:={i:Nat // i≤12}) (fun⟨i,hi⟩=>([(0,.pointer (some ⟨g,0,none⟩)),(2,.int .i64 (lv:Nat)),(4,.pointer (some ⟨g0,0,none⟩)),(12,slv (some go) 0 12 12),(13,.int .i64 12),(14,.int .i64 (i:Nat))],[BB g a d,BF d,gB z.T false,GM m,XB g0 z,⟨some go,110,tabC opsT,36,true⟩],12-i)) ⟨0,Nat.zero_le _⟩ ?_ (hL:=Weak.auto);rintro⟨i,hi⟩;(try dsimp only);refine A6 ?_;refine at_cond rfl (fun hb1=>?_) (fun hb1=>?_)
 ·
  have hlt:i<12:=(by have:=of_decide_eq_true hb1;omega)
  obtain⟨o,ho⟩:∃o,opsT[i]? =some o:=⟨opsT[i]'(by show i<12;exact hlt),List.getElem?_eq_getElem _⟩
  have hne:(o.2.1:Int)≠x.op:=by have:=List.find?_eq_none.1 hop o (List.mem_of_getElem? ho);simpa using this
  refine A6 ?_;refine Ix 5 (i*3) ?_;refine r_load (v:= .agg #[.string (strU o.1),.int .i64 (o.2.1:Nat),.int .i64 (o.2.2:Nat)]) 5 (i*3) _ rfl rfl rfl rfl ti110 (tabC_get ho) rfl (by decide) rfl ?_;refine r_alloc [_,_,_] 3 (fun g=>[_,_,_,_,_,_,⟨some g,110,_,3,true⟩]) rfl rfl z110 rfl rfl (fun _=>rfl) (fun g1=>?_);refine So 6 0 [_,_,_,_,_,_,⟨some g1,110,_,3,true⟩] [_,_,_] ?_;refine A9 ?_;refine r_know 21 (.int .i64 x.op) rfl (by rw[z.inv.1]) ?_;refine A3 ?_;refine at_cond rfl (fun hb2=>?_) (fun hb2=>?_)
  ·
   refine A5 ?_;refine Ar (((i+1:Nat):Int)) ?_;refine A3 ?_;exact Nl ⟨i+1,hlt⟩ (hL:=Weak.auto)
  ·exact absurd (by have hh:=hb2;simpa using hh) hne
 ·
  refine A10 ?_;refine r_know 73 (.int .i64 x.op) rfl (by rw[z.inv.1]) ?_;refine A9 ?_;refine at_cond rfl (fun hb2=>?_) (fun hb2=>?_)
  ·
   have h1:x.op=1:=by simpa using hb2
   have hsw:swS x=ratS x.num.rat:=by unfold swS;rw[if_pos h1]
   obtain⟨hq1,hq2⟩:=NumV.rat_ok z.inv.2.2.1 hfu (hnum.1 h1);refine at_regionM ?_;refine A2 ?_;refine r_load 4 2 [_,_,_,_] rfl rfl rfl rfl ti27 rfl rfl rfl rfl ?_;refine r_know 78 (Q x.num.rat) rfl hq1 ?_;refine Pc (c_rational_Print x.num.rat hq2) ?_;refine Gm 2 [0,1] [] (fun d1=>[BB g true d1.1,BF d1.1,_,_,_,_]) (c_b_WriteString g a d (ratS x.num.rat) hd (by have h:=hb;simp only[hsw,List.length_append,List.length_cons,List.length_nil] at h ⊢;omega)) (fun⟨d1,hd1,e1⟩=>?_);refine A5 ?_;refine r_scall [] [] rfl rfl rfl c_syntax_functions trivial rfl (.inr fun _ b hb=>by rw[List.mem_singleton.1 hb]) (fun gf=>?_);refine A5 ?_;refine El (ι:={r:Nat×Bool×Bd // r.1≤12∧r.2.2.ok∧r.2.2.s=d.s++(swS x++fnL x (funT.take r.1))∧(r.2.1=true∨((funT.take r.1).find? (fun f=>decide ((f.2.1:Int)=x.op))=none∧¬sw6 x.op))}) (fun⟨⟨i,a2,q⟩,hi,hq,hs,hA⟩=>([(0,.pointer (some ⟨g,0,none⟩)),(4,.pointer (some ⟨g0,0,none⟩)),(117,slv (some gf) 0 12 12),(118,.int .i64 12),(119,.int .i64 (i:Nat))],[BB g a2 q,BF q,gB z.T false,GM m,XB g0 z,⟨some gf,114,tabC funT,36,true⟩],12-i)) ⟨(0,true,d1),Nat.zero_le _,hd1,by rw[e1];rw[hsw];simp[fnL],.inl rfl⟩ ?_ (hL:=(weak_pk [some 0,some 1,some 2,some 3,some 4,some 6]));rintro⟨⟨i,a2,q⟩,hi,hq,hs,hA⟩;(try dsimp only);dsimp only at hi hq hs hA;refine A6 ?_;refine at_cond rfl (fun hb4=>?_) (fun hb4=>?_)
   ·
    have hlt:i<12:=(by have:=of_decide_eq_true hb4;omega)
    obtain⟨o,ho⟩:∃o,funT[i]? =some o:=⟨funT[i]'(by show i<12;exact hlt),List.getElem?_eq_getElem _⟩
    have hst:=fnL_step x ho;have hle:=fnL_le x funT (i+1);refine A6 ?_;refine Ix 5 (i*3) ?_;refine r_load (v:= .agg #[.string (strU o.1),.int .i64 (o.2.1:Nat),.int .i64 (o.2.2:Nat)]) 5 (i*3) _ rfl rfl rfl rfl ti114 (tabC_get ho) rfl (by decide) rfl ?_;refine r_alloc [_,_,_] 3 (fun g=>[_,_,_,_,_,_,⟨some g,114,_,3,true⟩]) rfl rfl z114 rfl rfl (fun _=>rfl) (fun g1=>?_);refine So 6 0 [_,_,_,_,_,_,⟨some g1,114,_,3,true⟩] [_,_,_] ?_;refine A8 ?_;refine r_know 126 (.int .i64 x.op) rfl (by rw[z.inv.1]) ?_;refine A3 ?_;refine at_cond rfl (fun hb5=>?_) (fun hb5=>?_)
    ·
     have hm:(o.2.1:Int)=x.op:=by simpa using hb5
     rw[if_pos hm] at hst;have hjs:=congrArg List.length hst;refine at_regionM ?_;refine A3 ?_;refine r_addS (p:=o.1) (q:=[40]) rfl rfl rfl rfl rfl rfl rfl (by have h:=hb;simp only[List.length_append,List.length_cons,List.length_nil] at h hjs ⊢;omega) ?_;refine A2 ?_;refine Gm 2 [0,1] [2,3] (fun(d1:BdX (q.s++((o.1++[40])++joinC (txtLs x.args)++[41])))=>[BB g true d1.1,BF d1.1,_,_,_,_,_]) (c_list_step z m H hok hf hM (o.1++[40]) [41] g a2 q hq (by have h:=hb;simp only[hs,List.length_append,List.length_cons,List.length_nil] at h hjs ⊢;omega)) (fun⟨d3,hd3,e3⟩=>?_);refine A4 ?_;refine Ar (((i+1:Nat):Int)) ?_;refine A3 ?_;exact Nl ⟨(i+1,true,d3),hlt,hd3,by rw[e3,hs,hst];simp only[List.append_assoc],.inl rfl⟩ (hL:=Weak.auto)
    ·
     have hm:(o.2.1:Int)≠x.op:=by simpa using hb5
     rw[if_neg hm] at hst;have hjs:=congrArg List.length hst;refine A4 ?_;refine Ar (((i+1:Nat):Int)) ?_;refine A3 ?_;exact Nl ⟨(i+1,a2,q),hlt,hq,by rw[hs,hst,List.append_nil],hA.imp id (fun h=>⟨find_none_step h.1 ho (by simpa using hm),h.2⟩)⟩ (hL:=Weak.auto)
   ·
    have hge:i=12:=(by have:=of_decide_eq_false hb4;omega)
    subst hge;refine A4 ?_
    refine at_end0nD rfl (fun w hL=>by
 have ha:a2=true:=by
  rcases hA with h|⟨h,hk⟩
  ·exact h
  ·exact absurd (find_none_all h (Nat.le_refl _)) (hkind hk)
 subst ha
 exact⟨⟨q,hq,hs⟩,rfl,hL.pk [some 0,some 1]⟩)
  ·
   have h1:x.op≠1:=by simpa using hb2
   refine A6 ?_;refine at_cond rfl (fun hb3=>?_) (fun hb3=>?_)
   ·
    have h4:x.op=4:=by simpa using hb3
    have hsw:swS x=x.name:=by unfold swS;rw[if_neg h1,if_pos h4]
    refine at_regionM ?_;refine A3 ?_;refine r_know 85 (.string (strU x.name)) rfl (by rw[z.inv.2.1]) ?_;refine Gm 2 [0,1] [] (fun d1=>[BB g true d1.1,BF d1.1,_,_,_,_]) (c_b_WriteString g a d x.name hd (by have h:=hb;simp only[hsw,List.length_append,List.length_cons,List.length_nil] at h ⊢;omega)) (fun⟨d1,hd1,e1⟩=>?_);refine A5 ?_;refine r_scall [] [] rfl rfl rfl c_syntax_functions trivial rfl (.inr fun _ b hb=>by rw[List.mem_singleton.1 hb]) (fun gf=>?_);refine A5 ?_;refine El (ι:={r:Nat×Bool×Bd // r.1≤12∧r.2.2.ok∧r.2.2.s=d.s++(swS x++fnL x (funT.take r.1))∧(r.2.1=true∨((funT.take r.1).find? (fun f=>decide ((f.2.1:Int)=x.op))=none∧¬sw6 x.op))}) (fun⟨⟨i,a2,q⟩,hi,hq,hs,hA⟩=>([(0,.pointer (some ⟨g,0,none⟩)),(4,.pointer (some ⟨g0,0,none⟩)),(117,slv (some gf) 0 12 12),(118,.int .i64 12),(119,.int .i64 (i:Nat))],[BB g a2 q,BF q,gB z.T false,GM m,XB g0 z,⟨some gf,114,tabC funT,36,true⟩],12-i)) ⟨(0,true,d1),Nat.zero_le _,hd1,by rw[e1];rw[hsw];simp[fnL],.inl rfl⟩ ?_ (hL:=(weak_pk [some 0,some 1,some 2,some 3,some 4,some 6]));rintro⟨⟨i,a2,q⟩,hi,hq,hs,hA⟩;(try dsimp only);dsimp only at hi hq hs hA;refine A6 ?_;refine at_cond rfl (fun hb5=>?_) (fun hb5=>?_)
    ·
     have hlt:i<12:=(by have:=of_decide_eq_true hb5;omega)
     obtain⟨o,ho⟩:∃o,funT[i]? =some o:=⟨funT[i]'(by show i<12;exact hlt),List.getElem?_eq_getElem _⟩
     have hst:=fnL_step x ho;have hle:=fnL_le x funT (i+1);refine A6 ?_;refine Ix 5 (i*3) ?_;refine r_load (v:= .agg #[.string (strU o.1),.int .i64 (o.2.1:Nat),.int .i64 (o.2.2:Nat)]) 5 (i*3) _ rfl rfl rfl rfl ti114 (tabC_get ho) rfl (by decide) rfl ?_;refine r_alloc [_,_,_] 3 (fun g=>[_,_,_,_,_,_,⟨some g,114,_,3,true⟩]) rfl rfl z114 rfl rfl (fun _=>rfl) (fun g1=>?_);refine So 6 0 [_,_,_,_,_,_,⟨some g1,114,_,3,true⟩] [_,_,_] ?_;refine A8 ?_;refine r_know 126 (.int .i64 x.op) rfl (by rw[z.inv.1]) ?_;refine A3 ?_;refine at_cond rfl (fun hb6=>?_) (fun hb6=>?_)
     ·
      have hm:(o.2.1:Int)=x.op:=by simpa using hb6
      rw[if_pos hm] at hst;have hjs:=congrArg List.length hst;refine at_regionM ?_;refine A3 ?_;refine r_addS (p:=o.1) (q:=[40]) rfl rfl rfl rfl rfl rfl rfl (by have h:=hb;simp only[List.length_append,List.length_cons,List.length_nil] at h hjs ⊢;omega) ?_;refine A2 ?_;refine Gm 2 [0,1] [2,3] (fun(d1:BdX (q.s++((o.1++[40])++joinC (txtLs x.args)++[41])))=>[BB g true d1.1,BF d1.1,_,_,_,_,_]) (c_list_step z m H hok hf hM (o.1++[40]) [41] g a2 q hq (by have h:=hb;simp only[hs,List.length_append,List.length_cons,List.length_nil] at h hjs ⊢;omega)) (fun⟨d3,hd3,e3⟩=>?_);refine A4 ?_;refine Ar (((i+1:Nat):Int)) ?_;refine A3 ?_;exact Nl ⟨(i+1,true,d3),hlt,hd3,by rw[e3,hs,hst];simp only[List.append_assoc],.inl rfl⟩ (hL:=Weak.auto)
     ·
      have hm:(o.2.1:Int)≠x.op:=by simpa using hb6
      rw[if_neg hm] at hst;have hjs:=congrArg List.length hst;refine A4 ?_;refine Ar (((i+1:Nat):Int)) ?_;refine A3 ?_;exact Nl ⟨(i+1,a2,q),hlt,hq,by rw[hs,hst,List.append_nil],hA.imp id (fun h=>⟨find_none_step h.1 ho (by simpa using hm),h.2⟩)⟩ (hL:=Weak.auto)
    ·
     have hge:i=12:=(by have:=of_decide_eq_false hb5;omega)
     subst hge;refine A4 ?_
     refine at_end0nD rfl (fun w hL=>by
 have ha:a2=true:=by
  rcases hA with h|⟨h,hk⟩
  ·exact h
  ·exact absurd (find_none_all h (Nat.le_refl _)) (hkind hk)
 subst ha
 exact⟨⟨q,hq,hs⟩,rfl,hL.pk [some 0,some 1]⟩)
   ·
    have h4:x.op≠4:=by simpa using hb3
    refine A6 ?_;refine at_cond rfl (fun hb4=>?_) (fun hb4=>?_)
    ·
     have h3:x.op=3:=by simpa using hb4
     have hsw:swS x=sObject++ratS x.num.rat++[41]:=by unfold swS;rw[if_neg h1,if_neg h4,if_pos h3]
     obtain⟨hq1,hq2⟩:=NumV.rat_ok z.inv.2.2.1 hfu (hnum.2 h3);refine at_regionM ?_;refine A2 ?_;refine r_load 4 2 [_,_,_,_] rfl rfl rfl rfl ti27 rfl rfl rfl rfl ?_;refine r_know 91 (Q x.num.rat) rfl hq1 ?_;refine Pc (c_rational_Print x.num.rat hq2) ?_;refine r_addS (p:=sObject) (q:=ratS x.num.rat) rfl rfl rfl rfl rfl rfl rfl (by have h:=hb;simp only[hsw,List.length_append,List.length_cons,List.length_nil] at h ⊢;omega) ?_;refine r_addS (p:=sObject++ratS x.num.rat) (q:=[41]) rfl rfl rfl rfl rfl rfl rfl (by have h:=hb;simp only[hsw,List.length_append,List.length_cons,List.length_nil] at h ⊢;omega) ?_;refine Gm 2 [0,1] [] (fun d1=>[BB g true d1.1,BF d1.1,_,_,_,_]) (c_b_WriteString g a d (sObject++ratS x.num.rat++[41]) hd (by have h:=hb;simp only[hsw,List.length_append,List.length_cons,List.length_nil] at h ⊢;omega)) (fun⟨d1,hd1,e1⟩=>?_);refine A5 ?_;refine r_scall [] [] rfl rfl rfl c_syntax_functions trivial rfl (.inr fun _ b hb=>by rw[List.mem_singleton.1 hb]) (fun gf=>?_);refine A5 ?_;refine El (ι:={r:Nat×Bool×Bd // r.1≤12∧r.2.2.ok∧r.2.2.s=d.s++(swS x++fnL x (funT.take r.1))∧(r.2.1=true∨((funT.take r.1).find? (fun f=>decide ((f.2.1:Int)=x.op))=none∧¬sw6 x.op))}) (fun⟨⟨i,a2,q⟩,hi,hq,hs,hA⟩=>([(0,.pointer (some ⟨g,0,none⟩)),(4,.pointer (some ⟨g0,0,none⟩)),(117,slv (some gf) 0 12 12),(118,.int .i64 12),(119,.int .i64 (i:Nat))],[BB g a2 q,BF q,gB z.T false,GM m,XB g0 z,⟨some gf,114,tabC funT,36,true⟩],12-i)) ⟨(0,true,d1),Nat.zero_le _,hd1,by rw[e1];rw[hsw];simp[fnL],.inl rfl⟩ ?_ (hL:=(weak_pk [some 0,some 1,some 2,some 3,some 4,some 6]));rintro⟨⟨i,a2,q⟩,hi,hq,hs,hA⟩;(try dsimp only);dsimp only at hi hq hs hA;refine A6 ?_;refine at_cond rfl (fun hb6=>?_) (fun hb6=>?_)
     ·
      have hlt:i<12:=(by have:=of_decide_eq_true hb6;omega)
      obtain⟨o,ho⟩:∃o,funT[i]? =some o:=⟨funT[i]'(by show i<12;exact hlt),List.getElem?_eq_getElem _⟩
      have hst:=fnL_step x ho;have hle:=fnL_le x funT (i+1);refine A6 ?_;refine Ix 5 (i*3) ?_;refine r_load (v:= .agg #[.string (strU o.1),.int .i64 (o.2.1:Nat),.int .i64 (o.2.2:Nat)]) 5 (i*3) _ rfl rfl rfl rfl ti114 (tabC_get ho) rfl (by decide) rfl ?_;refine r_alloc [_,_,_] 3 (fun g=>[_,_,_,_,_,_,⟨some g,114,_,3,true⟩]) rfl rfl z114 rfl rfl (fun _=>rfl) (fun g1=>?_);refine So 6 0 [_,_,_,_,_,_,⟨some g1,114,_,3,true⟩] [_,_,_] ?_;refine A8 ?_;refine r_know 126 (.int .i64 x.op) rfl (by rw[z.inv.1]) ?_;refine A3 ?_;refine at_cond rfl (fun hb7=>?_) (fun hb7=>?_)
      ·
       have hm:(o.2.1:Int)=x.op:=by simpa using hb7
       rw[if_pos hm] at hst;have hjs:=congrArg List.length hst;refine at_regionM ?_;refine A3 ?_;refine r_addS (p:=o.1) (q:=[40]) rfl rfl rfl rfl rfl rfl rfl (by have h:=hb;simp only[List.length_append,List.length_cons,List.length_nil] at h hjs ⊢;omega) ?_;refine A2 ?_;refine Gm 2 [0,1] [2,3] (fun(d1:BdX (q.s++((o.1++[40])++joinC (txtLs x.args)++[41])))=>[BB g true d1.1,BF d1.1,_,_,_,_,_]) (c_list_step z m H hok hf hM (o.1++[40]) [41] g a2 q hq (by have h:=hb;simp only[hs,List.length_append,List.length_cons,List.length_nil] at h hjs ⊢;omega)) (fun⟨d3,hd3,e3⟩=>?_);refine A4 ?_;refine Ar (((i+1:Nat):Int)) ?_;refine A3 ?_;exact Nl ⟨(i+1,true,d3),hlt,hd3,by rw[e3,hs,hst];simp only[List.append_assoc],.inl rfl⟩ (hL:=Weak.auto)
      ·
       have hm:(o.2.1:Int)≠x.op:=by simpa using hb7
       rw[if_neg hm] at hst;have hjs:=congrArg List.length hst;refine A4 ?_;refine Ar (((i+1:Nat):Int)) ?_;refine A3 ?_;exact Nl ⟨(i+1,a2,q),hlt,hq,by rw[hs,hst,List.append_nil],hA.imp id (fun h=>⟨find_none_step h.1 ho (by simpa using hm),h.2⟩)⟩ (hL:=Weak.auto)
     ·
      have hge:i=12:=(by have:=of_decide_eq_false hb6;omega)
      subst hge;refine A4 ?_
      refine at_end0nD rfl (fun w hL=>by
 have ha:a2=true:=by
  rcases hA with h|⟨h,hk⟩
  ·exact h
  ·exact absurd (find_none_all h (Nat.le_refl _)) (hkind hk)
 subst ha
 exact⟨⟨q,hq,hs⟩,rfl,hL.pk [some 0,some 1]⟩)
    ·
     have h3:x.op≠3:=by simpa using hb4
     refine A6 ?_;refine at_cond rfl (fun hb5=>?_) (fun hb5=>?_)
     ·
      have h5:x.op=5:=by simpa using hb5
      have hsw:swS x=sZone++quoS x.name++[34,41]:=by unfold swS;rw[if_neg h1,if_neg h4,if_neg h3,if_pos h5]
      refine at_regionM ?_;refine A3 ?_;refine r_know 100 (.string (strU x.name)) rfl (by rw[z.inv.2.1]) ?_;refine r_scall0 [.string (strU x.name),.string (strU [34]),.string (strU [34,34])] [3] rfl rfl rfl (c_ReplaceAll m x.name hfn) ⟨⟨_,rfl,Blk.le_refl _⟩,trivial⟩ rfl ?_;refine r_addS (p:=sZone) (q:=quoS x.name) rfl rfl rfl rfl rfl rfl rfl (by have h:=hb;simp only[hsw,List.length_append,List.length_cons,List.length_nil] at h ⊢;omega) ?_;refine r_addS (p:=sZone++quoS x.name) (q:=[34,41]) rfl rfl rfl rfl rfl rfl rfl (by have h:=hb;simp only[hsw,List.length_append,List.length_cons,List.length_nil] at h ⊢;omega) ?_;refine Gm 2 [0,1] [] (fun d1=>[BB g true d1.1,BF d1.1,_,_,_,_]) (c_b_WriteString g a d (sZone++quoS x.name++[34,41]) hd (by have h:=hb;simp only[hsw,List.length_append,List.length_cons,List.length_nil] at h ⊢;omega)) (fun⟨d1,hd1,e1⟩=>?_);refine A5 ?_;refine r_scall [] [] rfl rfl rfl c_syntax_functions trivial rfl (.inr fun _ b hb=>by rw[List.mem_singleton.1 hb]) (fun gf=>?_);refine A5 ?_;refine El (ι:={r:Nat×Bool×Bd // r.1≤12∧r.2.2.ok∧r.2.2.s=d.s++(swS x++fnL x (funT.take r.1))∧(r.2.1=true∨((funT.take r.1).find? (fun f=>decide ((f.2.1:Int)=x.op))=none∧¬sw6 x.op))}) (fun⟨⟨i,a2,q⟩,hi,hq,hs,hA⟩=>([(0,.pointer (some ⟨g,0,none⟩)),(4,.pointer (some ⟨g0,0,none⟩)),(117,slv (some gf) 0 12 12),(118,.int .i64 12),(119,.int .i64 (i:Nat))],[BB g a2 q,BF q,gB z.T false,GM m,XB g0 z,⟨some gf,114,tabC funT,36,true⟩],12-i)) ⟨(0,true,d1),Nat.zero_le _,hd1,by rw[e1];rw[hsw];simp[fnL],.inl rfl⟩ ?_ (hL:=(weak_pk [some 0,some 1,some 2,some 3,some 4,some 6]));rintro⟨⟨i,a2,q⟩,hi,hq,hs,hA⟩;(try dsimp only);dsimp only at hi hq hs hA;refine A6 ?_;refine at_cond rfl (fun hb7=>?_) (fun hb7=>?_)
      ·
       have hlt:i<12:=(by have:=of_decide_eq_true hb7;omega)
       obtain⟨o,ho⟩:∃o,funT[i]? =some o:=⟨funT[i]'(by show i<12;exact hlt),List.getElem?_eq_getElem _⟩
       have hst:=fnL_step x ho;have hle:=fnL_le x funT (i+1);refine A6 ?_;refine Ix 5 (i*3) ?_;refine r_load (v:= .agg #[.string (strU o.1),.int .i64 (o.2.1:Nat),.int .i64 (o.2.2:Nat)]) 5 (i*3) _ rfl rfl rfl rfl ti114 (tabC_get ho) rfl (by decide) rfl ?_;refine r_alloc [_,_,_] 3 (fun g=>[_,_,_,_,_,_,⟨some g,114,_,3,true⟩]) rfl rfl z114 rfl rfl (fun _=>rfl) (fun g1=>?_);refine So 6 0 [_,_,_,_,_,_,⟨some g1,114,_,3,true⟩] [_,_,_] ?_;refine A8 ?_;refine r_know 126 (.int .i64 x.op) rfl (by rw[z.inv.1]) ?_;refine A3 ?_;refine at_cond rfl (fun hb8=>?_) (fun hb8=>?_)
       ·
        have hm:(o.2.1:Int)=x.op:=by simpa using hb8
        rw[if_pos hm] at hst;have hjs:=congrArg List.length hst;refine at_regionM ?_;refine A3 ?_;refine r_addS (p:=o.1) (q:=[40]) rfl rfl rfl rfl rfl rfl rfl (by have h:=hb;simp only[List.length_append,List.length_cons,List.length_nil] at h hjs ⊢;omega) ?_;refine A2 ?_;refine Gm 2 [0,1] [2,3] (fun(d1:BdX (q.s++((o.1++[40])++joinC (txtLs x.args)++[41])))=>[BB g true d1.1,BF d1.1,_,_,_,_,_]) (c_list_step z m H hok hf hM (o.1++[40]) [41] g a2 q hq (by have h:=hb;simp only[hs,List.length_append,List.length_cons,List.length_nil] at h hjs ⊢;omega)) (fun⟨d3,hd3,e3⟩=>?_);refine A4 ?_;refine Ar (((i+1:Nat):Int)) ?_;refine A3 ?_;exact Nl ⟨(i+1,true,d3),hlt,hd3,by rw[e3,hs,hst];simp only[List.append_assoc],.inl rfl⟩ (hL:=Weak.auto)
       ·
        have hm:(o.2.1:Int)≠x.op:=by simpa using hb8
        rw[if_neg hm] at hst;have hjs:=congrArg List.length hst;refine A4 ?_;refine Ar (((i+1:Nat):Int)) ?_;refine A3 ?_;exact Nl ⟨(i+1,a2,q),hlt,hq,by rw[hs,hst,List.append_nil],hA.imp id (fun h=>⟨find_none_step h.1 ho (by simpa using hm),h.2⟩)⟩ (hL:=Weak.auto)
      ·
       have hge:i=12:=(by have:=of_decide_eq_false hb7;omega)
       subst hge;refine A4 ?_
       refine at_end0nD rfl (fun w hL=>by
 have ha:a2=true:=by
  rcases hA with h|⟨h,hk⟩
  ·exact h
  ·exact absurd (find_none_all h (Nat.le_refl _)) (hkind hk)
 subst ha
 exact⟨⟨q,hq,hs⟩,rfl,hL.pk [some 0,some 1]⟩)
     ·
      have h5:x.op≠5:=by simpa using hb5
      refine A6 ?_;refine at_cond rfl (fun hb6=>?_) (fun hb6=>?_)
      ·
       have h6:x.op=6:=by simpa using hb6
       have hsw:swS x=[91]++joinC (txtLs x.args)++[93]:=by unfold swS;rw[if_neg h1,if_neg h4,if_neg h3,if_neg h5,if_pos h6]
       refine at_regionM ?_;refine A3 ?_;refine Gm 2 [0,1] [2,3] (fun(d1:BdX (d.s++([91]++joinC (txtLs x.args)++[93])))=>[BB g true d1.1,BF d1.1,_,_,_,_]) (c_list_step z m H hok hf hM [91] [93] g a d hd (by have h:=hb;simp only[hsw,List.length_append,List.length_cons,List.length_nil] at h ⊢;omega)) (fun⟨d1,hd1,e1⟩=>?_);refine A5 ?_;refine r_scall [] [] rfl rfl rfl c_syntax_functions trivial rfl (.inr fun _ b hb=>by rw[List.mem_singleton.1 hb]) (fun gf=>?_);refine A5 ?_;refine El (ι:={r:Nat×Bool×Bd // r.1≤12∧r.2.2.ok∧r.2.2.s=d.s++(swS x++fnL x (funT.take r.1))∧(r.2.1=true∨((funT.take r.1).find? (fun f=>decide ((f.2.1:Int)=x.op))=none∧¬sw6 x.op))}) (fun⟨⟨i,a2,q⟩,hi,hq,hs,hA⟩=>([(0,.pointer (some ⟨g,0,none⟩)),(4,.pointer (some ⟨g0,0,none⟩)),(117,slv (some gf) 0 12 12),(118,.int .i64 12),(119,.int .i64 (i:Nat))],[BB g a2 q,BF q,gB z.T false,GM m,XB g0 z,⟨some gf,114,tabC funT,36,true⟩],12-i)) ⟨(0,true,d1),Nat.zero_le _,hd1,by rw[e1];rw[hsw];simp[fnL],.inl rfl⟩ ?_ (hL:=(weak_pk [some 0,some 1,some 2,some 3,some 4,some 6]));rintro⟨⟨i,a2,q⟩,hi,hq,hs,hA⟩;(try dsimp only);dsimp only at hi hq hs hA;refine A6 ?_;refine at_cond rfl (fun hb8=>?_) (fun hb8=>?_)
       ·
        have hlt:i<12:=(by have:=of_decide_eq_true hb8;omega)
        obtain⟨o,ho⟩:∃o,funT[i]? =some o:=⟨funT[i]'(by show i<12;exact hlt),List.getElem?_eq_getElem _⟩
        have hst:=fnL_step x ho;have hle:=fnL_le x funT (i+1);refine A6 ?_;refine Ix 5 (i*3) ?_;refine r_load (v:= .agg #[.string (strU o.1),.int .i64 (o.2.1:Nat),.int .i64 (o.2.2:Nat)]) 5 (i*3) _ rfl rfl rfl rfl ti114 (tabC_get ho) rfl (by decide) rfl ?_;refine r_alloc [_,_,_] 3 (fun g=>[_,_,_,_,_,_,⟨some g,114,_,3,true⟩]) rfl rfl z114 rfl rfl (fun _=>rfl) (fun g1=>?_);refine So 6 0 [_,_,_,_,_,_,⟨some g1,114,_,3,true⟩] [_,_,_] ?_;refine A8 ?_;refine r_know 126 (.int .i64 x.op) rfl (by rw[z.inv.1]) ?_;refine A3 ?_;refine at_cond rfl (fun hb9=>?_) (fun hb9=>?_)
        ·
         have hm:(o.2.1:Int)=x.op:=by simpa using hb9
         rw[if_pos hm] at hst;have hjs:=congrArg List.length hst;refine at_regionM ?_;refine A3 ?_;refine r_addS (p:=o.1) (q:=[40]) rfl rfl rfl rfl rfl rfl rfl (by have h:=hb;simp only[List.length_append,List.length_cons,List.length_nil] at h hjs ⊢;omega) ?_;refine A2 ?_;refine Gm 2 [0,1] [2,3] (fun(d1:BdX (q.s++((o.1++[40])++joinC (txtLs x.args)++[41])))=>[BB g true d1.1,BF d1.1,_,_,_,_,_]) (c_list_step z m H hok hf hM (o.1++[40]) [41] g a2 q hq (by have h:=hb;simp only[hs,List.length_append,List.length_cons,List.length_nil] at h hjs ⊢;omega)) (fun⟨d3,hd3,e3⟩=>?_);refine A4 ?_;refine Ar (((i+1:Nat):Int)) ?_;refine A3 ?_;exact Nl ⟨(i+1,true,d3),hlt,hd3,by rw[e3,hs,hst];simp only[List.append_assoc],.inl rfl⟩ (hL:=Weak.auto)
        ·
         have hm:(o.2.1:Int)≠x.op:=by simpa using hb9
         rw[if_neg hm] at hst;have hjs:=congrArg List.length hst;refine A4 ?_;refine Ar (((i+1:Nat):Int)) ?_;refine A3 ?_;exact Nl ⟨(i+1,a2,q),hlt,hq,by rw[hs,hst,List.append_nil],hA.imp id (fun h=>⟨find_none_step h.1 ho (by simpa using hm),h.2⟩)⟩ (hL:=Weak.auto)
       ·
        have hge:i=12:=(by have:=of_decide_eq_false hb8;omega)
        subst hge;refine A4 ?_
        refine at_end0nD rfl (fun w hL=>by
 have ha:a2=true:=by
  rcases hA with h|⟨h,hk⟩
  ·exact h
  ·exact absurd (find_none_all h (Nat.le_refl _)) (hkind hk)
 subst ha
 exact⟨⟨q,hq,hs⟩,rfl,hL.pk [some 0,some 1]⟩)
      ·
       have h6:x.op≠6:=by simpa using hb6
       refine A6 ?_;refine at_cond rfl (fun hb7=>?_) (fun hb7=>?_)
       ·
        have h2:x.op=2:=by simpa using hb7
        have hsw:swS x=sPoint++joinC (txtLs x.args)++[41]:=by unfold swS;rw[if_neg h1,if_neg h4,if_neg h3,if_neg h5,if_neg h6,if_pos h2]
        refine at_regionM ?_;refine A3 ?_;refine Gm 2 [0,1] [2,3] (fun(d1:BdX (d.s++(sPoint++joinC (txtLs x.args)++[41])))=>[BB g true d1.1,BF d1.1,_,_,_,_]) (c_list_step z m H hok hf hM sPoint [41] g a d hd (by have h:=hb;simp only[hsw,List.length_append,List.length_cons,List.length_nil] at h ⊢;omega)) (fun⟨d1,hd1,e1⟩=>?_);refine A5 ?_;refine r_scall [] [] rfl rfl rfl c_syntax_functions trivial rfl (.inr fun _ b hb=>by rw[List.mem_singleton.1 hb]) (fun gf=>?_);refine A5 ?_;refine El (ι:={r:Nat×Bool×Bd // r.1≤12∧r.2.2.ok∧r.2.2.s=d.s++(swS x++fnL x (funT.take r.1))∧(r.2.1=true∨((funT.take r.1).find? (fun f=>decide ((f.2.1:Int)=x.op))=none∧¬sw6 x.op))}) (fun⟨⟨i,a2,q⟩,hi,hq,hs,hA⟩=>([(0,.pointer (some ⟨g,0,none⟩)),(4,.pointer (some ⟨g0,0,none⟩)),(117,slv (some gf) 0 12 12),(118,.int .i64 12),(119,.int .i64 (i:Nat))],[BB g a2 q,BF q,gB z.T false,GM m,XB g0 z,⟨some gf,114,tabC funT,36,true⟩],12-i)) ⟨(0,true,d1),Nat.zero_le _,hd1,by rw[e1];rw[hsw];simp[fnL],.inl rfl⟩ ?_ (hL:=(weak_pk [some 0,some 1,some 2,some 3,some 4,some 6]));rintro⟨⟨i,a2,q⟩,hi,hq,hs,hA⟩;(try dsimp only);dsimp only at hi hq hs hA;refine A6 ?_;refine at_cond rfl (fun hb9=>?_) (fun hb9=>?_)
        ·
         have hlt:i<12:=(by have:=of_decide_eq_true hb9;omega)
         obtain⟨o,ho⟩:∃o,funT[i]? =some o:=⟨funT[i]'(by show i<12;exact hlt),List.getElem?_eq_getElem _⟩
         have hst:=fnL_step x ho;have hle:=fnL_le x funT (i+1);refine A6 ?_;refine Ix 5 (i*3) ?_;refine r_load (v:= .agg #[.string (strU o.1),.int .i64 (o.2.1:Nat),.int .i64 (o.2.2:Nat)]) 5 (i*3) _ rfl rfl rfl rfl ti114 (tabC_get ho) rfl (by decide) rfl ?_;refine r_alloc [_,_,_] 3 (fun g=>[_,_,_,_,_,_,⟨some g,114,_,3,true⟩]) rfl rfl z114 rfl rfl (fun _=>rfl) (fun g1=>?_);refine So 6 0 [_,_,_,_,_,_,⟨some g1,114,_,3,true⟩] [_,_,_] ?_;refine A8 ?_;refine r_know 126 (.int .i64 x.op) rfl (by rw[z.inv.1]) ?_;refine A3 ?_;refine at_cond rfl (fun hb10=>?_) (fun hb10=>?_)
         ·
          have hm:(o.2.1:Int)=x.op:=by simpa using hb10
          rw[if_pos hm] at hst;have hjs:=congrArg List.length hst;refine at_regionM ?_;refine A3 ?_;refine r_addS (p:=o.1) (q:=[40]) rfl rfl rfl rfl rfl rfl rfl (by have h:=hb;simp only[List.length_append,List.length_cons,List.length_nil] at h hjs ⊢;omega) ?_;refine A2 ?_;refine Gm 2 [0,1] [2,3] (fun(d1:BdX (q.s++((o.1++[40])++joinC (txtLs x.args)++[41])))=>[BB g true d1.1,BF d1.1,_,_,_,_,_]) (c_list_step z m H hok hf hM (o.1++[40]) [41] g a2 q hq (by have h:=hb;simp only[hs,List.length_append,List.length_cons,List.length_nil] at h hjs ⊢;omega)) (fun⟨d3,hd3,e3⟩=>?_);refine A4 ?_;refine Ar (((i+1:Nat):Int)) ?_;refine A3 ?_;exact Nl ⟨(i+1,true,d3),hlt,hd3,by rw[e3,hs,hst];simp only[List.append_assoc],.inl rfl⟩ (hL:=Weak.auto)
         ·
          have hm:(o.2.1:Int)≠x.op:=by simpa using hb10
          rw[if_neg hm] at hst;have hjs:=congrArg List.length hst;refine A4 ?_;refine Ar (((i+1:Nat):Int)) ?_;refine A3 ?_;exact Nl ⟨(i+1,a2,q),hlt,hq,by rw[hs,hst,List.append_nil],hA.imp id (fun h=>⟨find_none_step h.1 ho (by simpa using hm),h.2⟩)⟩ (hL:=Weak.auto)
        ·
         have hge:i=12:=(by have:=of_decide_eq_false hb9;omega)
         subst hge;refine A4 ?_
         refine at_end0nD rfl (fun w hL=>by
 have ha:a2=true:=by
  rcases hA with h|⟨h,hk⟩
  ·exact h
  ·exact absurd (find_none_all h (Nat.le_refl _)) (hkind hk)
 subst ha
 exact⟨⟨q,hq,hs⟩,rfl,hL.pk [some 0,some 1]⟩)
       ·
        have h2:x.op≠2:=by simpa using hb7
        have hsw:swS x=[]:=by unfold swS;rw[if_neg h1,if_neg h4,if_neg h3,if_neg h5,if_neg h6,if_neg h2]
        have hk6:¬sw6 x.op:=fun h=>by unfold sw6 at h;omega
        refine A5 ?_;refine r_scall [] [] rfl rfl rfl c_syntax_functions trivial rfl (.inr fun _ b hb=>by rw[List.mem_singleton.1 hb]) (fun gf=>?_);refine A5 ?_;refine El (ι:={r:Nat×Bool×Bd // r.1≤12∧r.2.2.ok∧r.2.2.s=d.s++(swS x++fnL x (funT.take r.1))∧(r.2.1=true∨((funT.take r.1).find? (fun f=>decide ((f.2.1:Int)=x.op))=none∧¬sw6 x.op))}) (fun⟨⟨i,a2,q⟩,hi,hq,hs,hA⟩=>([(0,.pointer (some ⟨g,0,none⟩)),(4,.pointer (some ⟨g0,0,none⟩)),(117,slv (some gf) 0 12 12),(118,.int .i64 12),(119,.int .i64 (i:Nat))],[BB g a2 q,BF q,gB z.T false,GM m,XB g0 z,⟨some gf,114,tabC funT,36,true⟩],12-i)) ⟨(0,a,d),Nat.zero_le _,hd,by show d.s=_;rw[hsw];simp[fnL],.inr ⟨rfl,hk6⟩⟩ ?_ (hL:=(weak_pk [some 0,some 1,some 2,some 3,some 4,some 6]));rintro⟨⟨i,a2,q⟩,hi,hq,hs,hA⟩;(try dsimp only);dsimp only at hi hq hs hA;refine A6 ?_;refine at_cond rfl (fun hb9=>?_) (fun hb9=>?_)
        ·
         have hlt:i<12:=(by have:=of_decide_eq_true hb9;omega)
         obtain⟨o,ho⟩:∃o,funT[i]? =some o:=⟨funT[i]'(by show i<12;exact hlt),List.getElem?_eq_getElem _⟩
         have hst:=fnL_step x ho;have hle:=fnL_le x funT (i+1);refine A6 ?_;refine Ix 5 (i*3) ?_;refine r_load (v:= .agg #[.string (strU o.1),.int .i64 (o.2.1:Nat),.int .i64 (o.2.2:Nat)]) 5 (i*3) _ rfl rfl rfl rfl ti114 (tabC_get ho) rfl (by decide) rfl ?_;refine r_alloc [_,_,_] 3 (fun g=>[_,_,_,_,_,_,⟨some g,114,_,3,true⟩]) rfl rfl z114 rfl rfl (fun _=>rfl) (fun g1=>?_);refine So 6 0 [_,_,_,_,_,_,⟨some g1,114,_,3,true⟩] [_,_,_] ?_;refine A8 ?_;refine r_know 126 (.int .i64 x.op) rfl (by rw[z.inv.1]) ?_;refine A3 ?_;refine at_cond rfl (fun hb10=>?_) (fun hb10=>?_)
         ·
          have hm:(o.2.1:Int)=x.op:=by simpa using hb10
          rw[if_pos hm] at hst;have hjs:=congrArg List.length hst;refine at_regionM ?_;refine A3 ?_;refine r_addS (p:=o.1) (q:=[40]) rfl rfl rfl rfl rfl rfl rfl (by have h:=hb;simp only[List.length_append,List.length_cons,List.length_nil] at h hjs ⊢;omega) ?_;refine A2 ?_;refine Gm 2 [0,1] [2,3] (fun(d1:BdX (q.s++((o.1++[40])++joinC (txtLs x.args)++[41])))=>[BB g true d1.1,BF d1.1,_,_,_,_,_]) (c_list_step z m H hok hf hM (o.1++[40]) [41] g a2 q hq (by have h:=hb;simp only[hs,List.length_append,List.length_cons,List.length_nil] at h hjs ⊢;omega)) (fun⟨d3,hd3,e3⟩=>?_);refine A4 ?_;refine Ar (((i+1:Nat):Int)) ?_;refine A3 ?_;exact Nl ⟨(i+1,true,d3),hlt,hd3,by rw[e3,hs,hst];simp only[List.append_assoc],.inl rfl⟩ (hL:=Weak.auto)
         ·
          have hm:(o.2.1:Int)≠x.op:=by simpa using hb10
          rw[if_neg hm] at hst;have hjs:=congrArg List.length hst;refine A4 ?_;refine Ar (((i+1:Nat):Int)) ?_;refine A3 ?_;exact Nl ⟨(i+1,a2,q),hlt,hq,by rw[hs,hst,List.append_nil],hA.imp id (fun h=>⟨find_none_step h.1 ho (by simpa using hm),h.2⟩)⟩ (hL:=Weak.auto)
        ·
         have hge:i=12:=(by have:=of_decide_eq_false hb9;omega)
         subst hge;refine A4 ?_
         refine at_end0nD rfl (fun w hL=>by
 have ha:a2=true:=by
  rcases hA with h|⟨h,hk⟩
  ·exact h
  ·exact absurd (find_none_all h (Nat.le_refl _)) (hkind hk)
 subst ha
 exact⟨⟨q,hq,hs⟩,rfl,hL.pk [some 0,some 1]⟩)
theorem c_b_WriteByteD(g:Nat)(a:Bool)(d:Bd)(c:UInt8)(hd:d.ok)(hm:d.s.length+1≤17179869184):ECallD Tryz.prog 124 [BB g a d,BF d] [.pointer (some ⟨g,0,none⟩),.int .u8 (c.toNat:Nat)] (BdX (d.s++[c])) (fun _=> .nilIface) (fun x=>[BB g true x.1,BF x.1]):=by
 refine⟨by kernel_rfl,fun B w hD hL0=>?_⟩;obtain⟨hd1,hd2,hd3⟩:=hd;refine callsD_atB (args:=[.pointer (some ⟨g,0,none⟩),.int .u8 (c.toNat:Nat)]) Tryz.func124 rfl (Nat.le_of_ble_eq_true rfl) hL0 ?_;show At B ⟨17,[(0,.pointer (some ⟨g,0,none⟩)),(1,.int .u8 (c.toNat:Nat))],[BB g a d,BF d]⟩ _;refine A6 ?_;refine at_regionM ?_;refine A1 ?_;refine Gm 1 [0] [] (fun _=>[BB g true d,BF d]) (c_b_copyCheck g a d) (fun _=>?_);refine A10 ?_;refine r_buildSlice [(0,_)] (fun g=>[_,_,⟨some g,5,_,1,true⟩]) rfl rfl rfl (bs125_1) rfl (fun _=>rfl) (fun g0=>?_);refine q_append (b2o:=g0) (b:=BF d) (len:=d.s.length) (n2:=1) 1 2 (fun r=>[BB g true d,⟨some r.g,5,NB d.s++[.int .u8 (c.toNat:Nat)],r.n,true⟩,_]) u125 el5 rfl rfl rfl rfl rfl rfl rfl rfl rfl rfl rfl rfl (by rw[NB_length,Nat.mul_one]) hd1 (by rw[Nat.mul_one];exact hd2) rfl (fun v hv=>by rw[List.mem_singleton.1 hv];rfl) hm (fun r=>rfl) (fun r=>?_);refine A2 ?_;refine So 0 1 [⟨some g,127,_,2,true⟩,_,_] [_,_] ?_;refine A8 ?_;refine at_end1 rfl (res_tmp rfl) (fun w hL=>wb_fin r _ hL)
end Go.Proofs.YtfijbadahkmhbaaGreatDoor
namespace Go.Via
open Go Go.RowKit
noncomputable def inS(x:XT)(o:Bs8×Nat×Nat):Bs8:=
 if o.2.2=3 then sNot++txtAt x.args 0 3 else txtAt x.args 0 (if o.2.2=4 then 5 else o.2.2)++([32]++o.1++[32])++txtAt x.args 1 (o.2.2+1)
theorem txt_op{x:XT}{o:Bs8×Nat×Nat}(h:opsT.find? (fun f=>decide ((f.2.1:Int)=x.op))=some o)(lv:Nat):txt x lv=if o.2.2<lv then[40]++inS x o++[41] else inS x o:=by
 cases x with
 |mk op nm u l=>
  have hop:(XT.mk op nm u l).op=op:=rfl
  rw[hop] at h
  rw[txt,h]
  rfl
theorem op_args{x:XT}{o:Bs8×Nat×Nat}(hn:nodeE x=0)(h:opsT.find? (fun f=>decide ((f.2.1:Int)=x.op))=some o):(o.2.2=3→x.args.length=1)∧(o.2.2≠3→x.args.length=2):=by
 have hm:=List.mem_of_find?_eq_some h
 have hp:=List.find?_some h
 have he:(o.2.1:Int)=x.op:=by simpa using hp
 have hc:∀o∈opsT,cntL (o.2.1:Nat)=if o.2.2=3 then 1 else 2:=by decide
 have h1:=hc o hm
 rw[he] at h1
 unfold nodeE at hn
 split at hn
 ·cases hn
 split at hn
 ·cases hn
 rename_i h2
 have h3:((x.args.length:Nat):Int)=cntL x.op:=by
  by_cases e:((x.args.length:Nat):Int)=cntL x.op
  ·exact e
  ·exact absurd (.inl e) h2
 rw[h1] at h3
 refine⟨fun e=>?_,fun e=>?_⟩
 ·rw[if_pos e] at h3;omega
 ·rw[if_neg e] at h3;omega
theorem ops_small{o:Bs8×Nat×Nat}(h:o∈opsT):o.2.2≤7∧o.1.length≤6:=by
 have:∀o∈opsT,o.2.2≤7∧o.1.length≤6:=by decide
 exact this o h
theorem kind_ok{x:XT}(hn:nodeE x=0)(h:opsT.find? (fun f=>decide ((f.2.1:Int)=x.op))=none):¬sw6 x.op→funT.find? (fun f=>decide ((f.2.1:Int)=x.op))≠none:=by
 intro h6 hf
 unfold nodeE at hn
 split at hn
 ·cases hn
 rename_i h1
 have ho:∀f∈opsT,(f.2.1:Int)≠x.op:=fun f hm=>by have:=List.find?_eq_none.1 h f hm;simpa using this
 have e25:x.op≠25:=fun e=>ho ([110,111,116],25,3) (by decide) (by rw[e];rfl)
 refine h1 ?_
 unfold sw6 at h6
 unfold cntL
 rw[if_neg (by omega),if_neg e25,if_neg (by omega),hf]
 dsimp only
 rw[h]
 decide
end Go.Via
namespace Go.Proofs.YtfijbadahkmhbaaGreatDoor
open Go Go.RowKit Go.Via
theorem c_write_op{x:XT}(z:XR x)(m:Int)(H:∀y:XT,y.size<x.size→WriC m y)(hok:okX x)(hf:x.fit=true)(hM:x.size≤1000000000)(lv g:Nat)(hlv9:lv≤9)(a:Bool)(d:Bd)(hd:d.ok)(hop:opsT.find? (fun f=>decide ((f.2.1:Int)=x.op))≠none)(hb:d.s.length+(txt x lv).length≤17179869184):ECall Tryz.prog 96 [BB g a d,BF d,gB z.T false,GM m] [.pointer (some ⟨g,0,none⟩),z.v,.int .i64 (lv:Nat)] (BdX (d.s++txt x lv)) (fun _=> .tuple #[]) (fun d'=>[BB g true d'.1,BF d'.1]):=by
 refine⟨by kernel_rfl,fun B w hD hL0=>?_⟩;obtain⟨hfn,hfu,hfs⟩:=XT.fit_parts hf;have hks:=(okX_parts hok).2;have sNot_len:sNot.length=4:=rfl;obtain⟨hz1,hz2,hz3,hz4,hz5,hz6⟩:=z.inv;refine calls_atD (args:=[.pointer (some ⟨g,0,none⟩),z.v,.int .i64 (lv:Nat)]) Tryz.func96 rfl (Nat.le_of_ble_eq_true rfl) hL0 ?_;show At B ⟨136,[(0,.pointer (some ⟨g,0,none⟩)),(1,z.v),(2,.int .i64 (lv:Nat))],[BB g a d,BF d,gB z.T false,GM m]⟩ _;refine A2 ?_;refine Bo [_,_,_,_,_,_,_] 7 (fun g=>[_,_,_,_,⟨some g,30,_,7,true⟩]) (fun g0=>?_);refine A5 ?_;refine r_scall [] [] rfl rfl rfl c_syntax_operators trivial rfl (.inr fun _ b hb=>by rw[List.mem_singleton.1 hb]) (fun go=>?_);refine A5 ?_;refine El (ι:={i:Nat // i≤12∧(opsT.take i).find? (fun f=>decide ((f.2.1:Int)=x.op))=none}) (fun⟨i,hi,hI⟩=>([(0,.pointer (some ⟨g,0,none⟩)),(2,.int .i64 (lv:Nat)),(4,.pointer (some ⟨g0,0,none⟩)),(12,slv (some go) 0 12 12),(13,.int .i64 12),(14,.int .i64 (i:Nat))],[BB g a d,BF d,gB z.T false,GM m,XB g0 z,⟨some go,110,tabC opsT,36,true⟩],12-i)) ⟨0,Nat.zero_le _,rfl⟩ ?_ (hL:=Weak.auto);rintro⟨i,hi,hI⟩;(try dsimp only);refine A6 ?_;refine at_cond rfl (fun hb1=>?_) (fun hb1=>?_)
 ·
  have hlt:i<12:=(by have:=of_decide_eq_true hb1;omega)
  obtain⟨o,ho⟩:∃o,opsT[i]? =some o:=⟨opsT[i]'(by show i<12;exact hlt),List.getElem?_eq_getElem _⟩
  refine A6 ?_;refine Ix 5 (i*3) ?_;refine r_load (v:= .agg #[.string (strU o.1),.int .i64 (o.2.1:Nat),.int .i64 (o.2.2:Nat)]) 5 (i*3) _ rfl rfl rfl rfl ti110 (tabC_get ho) rfl (by decide) rfl ?_;refine r_alloc [_,_,_] 3 (fun g=>[_,_,_,_,_,_,⟨some g,110,_,3,true⟩]) rfl rfl z110 rfl rfl (fun _=>rfl) (fun g1=>?_);refine So 6 0 [_,_,_,_,_,_,⟨some g1,110,_,3,true⟩] [_,_,_] ?_;refine A9 ?_;refine r_know 21 (.int .i64 x.op) rfl (by rw[z.inv.1]) ?_;refine A3 ?_;refine at_cond rfl (fun hb2=>?_) (fun hb2=>?_)
  ·
   have hne:(o.2.1:Int)≠x.op:=by simpa using hb2
   refine A5 ?_;refine Ar (((i+1:Nat):Int)) ?_;refine A3 ?_;exact Nl ⟨i+1,hlt,find_none_step hI ho (by simpa using hne)⟩ (hL:=Weak.auto)
  ·
   have hm:(o.2.1:Int)=x.op:=by simpa using hb2
   have hfo:opsT.find? (fun f=>decide ((f.2.1:Int)=x.op))=some o:=find_some_at hI ho (by simpa using hm);obtain⟨hn1,hn2⟩:=op_args (okX_parts hok).1 hfo;obtain⟨hl7,htk⟩:=ops_small (List.mem_of_getElem? ho);refine A11 ?_;refine at_cond rfl (fun hb3=>?_) (fun hb3=>?_)
   ·
    have hlv:o.2.2<lv:=by have:=of_decide_eq_true hb3;omega
    have htx:txt x lv=[40]++inS x o++[41]:=by rw[txt_op hfo,if_pos hlv]
    refine A1 ?_;refine at_regionM ?_;refine A1 ?_;refine Gm 2 [0,1] [] (fun(d9:BdX (d.s++[40]))=>[BB g true d9.1,BF d9.1,_,_,_,_,_]) (c_b_WriteByte g a d 40 hd (by have h:=hb;simp only[htx,List.length_append,List.length_cons,List.length_nil] at h ⊢;omega)) (fun⟨d0,hd0,e0⟩=>?_);refine A2 ?_;refine at_regionDef [.pointer (some ⟨g,0,none⟩),.int .u8 ((41:UInt8).toNat:Nat)] (l:=[⟨_,_,_,_,_,_⟩]) rfl ?_;refine A1 ?_;refine run_nil ⟨rfl,?_⟩;refine A2 ?_;refine at_drawnI [2000000] mixed (by kernel_rfl) (by kernel_rfl) ?_;refine A4 ?_;refine Ar (((o.2.2+1:Nat):Int)) ?_;refine A18 ?_;refine at_cond rfl (fun hb4=>?_) (fun hb4=>?_)
    ·
     have h3:o.2.2=3:=by have hh:=hb4;simp only[beq_iff_eq,beq_eq_false_iff_ne,ne_eq] at hh ⊢;omega
     have hna1:=hn1 h3
     obtain⟨y,hy⟩:∃y,x.args[0]? =some y:=⟨x.args[0]'(by omega),List.getElem?_eq_getElem _⟩
     obtain⟨ga,oa,ca,u,hza,hma,hra,hTa,hna⟩:=z.arg hy
     have hin:inS x o=sNot++txt y 3:=by unfold inS;rw[if_pos h3,txtAt_get _ hy]
     refine A1 ?_;refine at_regionM ?_;refine A1 ?_;refine Gm 2 [0,1] [] (fun d1=>[BB g true d1.1,BF d1.1,_,_,_,_,_]) (c_b_WriteString g true d0 sNot hd0 (by have h:=hb;simp only[htx,hin,e0,List.length_append,List.length_cons,List.length_nil,sNot_len] at h ⊢;omega)) (fun⟨d1,hd1,e1⟩=>?_);refine A3 ?_;refine at_regionM ?_;refine A3 ?_;refine r_indexAddrG (gg:=ga) (len:=z.n) (cap:=z.cap) (oa+0*7) u28 ti30 rfl rfl (congrArg (fun a=>some (Value.slice a z.n z.cap)) hza) rfl (by omega) (by omega) (by show oa+Int.toNat 0*7=_;rfl) ?_;refine r_loadT (v:=u.v) 2 (oa+0*7) u.cs rfl rfl rfl z.hT hma hna rfl ti30 hra rfl rfl rfl ?_;refine Gm 2 [0,1] [2,3] (fun(d9:BdX (d1.s++txt y (3)))=>[BB g true d9.1,BF d9.1,_,_,_,_,_]) (by have h:=H y (XT.arg_lt hy) u (3) g true d1 hd1 (okXs_get hks hy) (XT.fits_get hfs hy) (Nat.le_trans (Nat.le_of_lt (XT.arg_lt hy)) hM) (by omega) (by have h:=hb;simp only[htx,hin,e0,e1,List.length_append,List.length_cons,List.length_nil,sNot_len] at h ⊢;omega);rw[hTa] at h;exact h) (fun⟨d2,hd2,e2⟩=>?_);refine A10 ?_;refine at_leave1 (vs:=[.pointer (some ⟨g,0,none⟩),.int .u8 ((41:UInt8).toNat:Nat)]) rfl (by kernel_rfl) (fun w hL=>((c_b_WriteByteD g true d2 41 hd2 (by have h:=hb;simp only[htx,hin,e0,e2,e1,List.length_append,List.length_cons,List.length_nil,sNot_len] at h ⊢;omega)).at (A:=[BB g true d2,BF d2]) (C:=[]) [0,1] [] (by decide) rfl rfl trivial rfl rfl (fun _=>rfl) (fun _=>allOwn rfl) (hL.putD B.D)).mono (fun e u' w' ⟨hu,x1,he,hx⟩=>⟨hu,_,he,⟨⟨x1.1,x1.2.1,by rw[x1.2.2];rw[e2,e1,e0,htx,hin];simp only[List.append_assoc]⟩,rfl,hx.pk [some 0,some 1]⟩⟩)) (by show _::B.D=_;rw[hD])
    ·
     have h3:o.2.2≠3:=by have hh:=hb4;simp only[beq_iff_eq,beq_eq_false_iff_ne,ne_eq] at hh ⊢;omega
     have hna1:=hn2 h3
     obtain⟨y,hy⟩:∃y,x.args[0]? =some y:=⟨x.args[0]'(by omega),List.getElem?_eq_getElem _⟩
     obtain⟨ga,oa,ca,u,hza,hma,hra,hTa,hna⟩:=z.arg hy
     obtain⟨y2,hy2⟩:∃y,x.args[1]? =some y:=⟨x.args[1]'(by omega),List.getElem?_eq_getElem _⟩
     obtain⟨ga2,oa2,ca2,u2,hza2,hma2,hra2,hTa2,hna2⟩:=z.arg hy2;refine A6 ?_;refine at_cond rfl (fun hb5=>?_) (fun hb5=>?_)
     ·
      have h4:o.2.2=4:=by have hh:=hb5;simp only[beq_iff_eq,beq_eq_false_iff_ne,ne_eq] at hh ⊢;omega
      have h45:(if o.2.2=4 then 5 else o.2.2)=o.2.2+1:=by rw[if_pos h4];omega
      have hin:inS x o=txt y (o.2.2+1)++([32]++o.1++[32])++txt y2 (o.2.2+1):=by unfold inS;rw[if_neg h3,h45,txtAt_get _ hy,txtAt_get _ hy2]
      refine A2 ?_;refine Ar (((o.2.2+1:Nat):Int)) ?_;refine A5 ?_;refine at_regionM ?_;refine A3 ?_;refine r_indexAddrG (gg:=ga) (len:=z.n) (cap:=z.cap) (oa+0*7) u28 ti30 rfl rfl (congrArg (fun a=>some (Value.slice a z.n z.cap)) hza) rfl (by omega) (by omega) (by show oa+Int.toNat 0*7=_;rfl) ?_;refine r_loadT (v:=u.v) 2 (oa+0*7) u.cs rfl rfl rfl z.hT hma hna rfl ti30 hra rfl rfl rfl ?_;refine A1 ?_;refine Gm 2 [0,1] [2,3] (fun(d9:BdX (d0.s++txt y (o.2.2+1)))=>[BB g true d9.1,BF d9.1,_,_,_,_,_]) (by have h:=H y (XT.arg_lt hy) u (o.2.2+1) g true d0 hd0 (okXs_get hks hy) (XT.fits_get hfs hy) (Nat.le_trans (Nat.le_of_lt (XT.arg_lt hy)) hM) (by omega) (by have h:=hb;simp only[htx,hin,e0,List.length_append,List.length_cons,List.length_nil,sNot_len] at h ⊢;omega);rw[hTa] at h;exact h) (fun⟨d1,hd1,e1⟩=>?_);refine A3 ?_;refine at_regionM ?_;refine A3 ?_;refine r_addS (p:=[32]) (q:=o.1) rfl rfl rfl rfl rfl rfl rfl (by show 1+_≤_;omega) ?_;refine r_addS (p:=[32]++o.1) (q:=[32]) rfl rfl rfl rfl rfl rfl rfl (by rw[List.length_append];show 1+_+1≤_;omega) ?_;refine Gm 2 [0,1] [] (fun d1=>[BB g true d1.1,BF d1.1,_,_,_,_,_]) (c_b_WriteString g true d1 ([32]++o.1++[32]) hd1 (by have h:=hb;simp only[htx,hin,e0,e1,List.length_append,List.length_cons,List.length_nil,sNot_len] at h ⊢;omega)) (fun⟨d2,hd2,e2⟩=>?_);refine A3 ?_;refine at_regionM ?_;refine A3 ?_;refine r_indexAddrG (gg:=ga2) (len:=z.n) (cap:=z.cap) (oa2+1*7) u28 ti30 rfl rfl (congrArg (fun a=>some (Value.slice a z.n z.cap)) hza2) rfl (by omega) (by omega) (by show oa2+Int.toNat 1*7=_;rfl) ?_;refine r_loadT (v:=u2.v) 2 (oa2+1*7) u2.cs rfl rfl rfl z.hT hma2 hna2 rfl ti30 hra2 rfl rfl rfl ?_;refine A1 ?_;refine Gm 2 [0,1] [2,3] (fun(d9:BdX (d2.s++txt y2 (o.2.2+1)))=>[BB g true d9.1,BF d9.1,_,_,_,_,_]) (by have h:=H y2 (XT.arg_lt hy2) u2 (o.2.2+1) g true d2 hd2 (okXs_get hks hy2) (XT.fits_get hfs hy2) (Nat.le_trans (Nat.le_of_lt (XT.arg_lt hy2)) hM) (by omega) (by have h:=hb;simp only[htx,hin,e0,e1,e2,List.length_append,List.length_cons,List.length_nil,sNot_len] at h ⊢;omega);rw[hTa2] at h;exact h) (fun⟨d3,hd3,e3⟩=>?_);refine A8 ?_;refine at_leave1 (vs:=[.pointer (some ⟨g,0,none⟩),.int .u8 ((41:UInt8).toNat:Nat)]) rfl (by kernel_rfl) (fun w hL=>((c_b_WriteByteD g true d3 41 hd3 (by have h:=hb;simp only[htx,hin,e0,e3,e2,e1,List.length_append,List.length_cons,List.length_nil,sNot_len] at h ⊢;omega)).at (A:=[BB g true d3,BF d3]) (C:=[]) [0,1] [] (by decide) rfl rfl trivial rfl rfl (fun _=>rfl) (fun _=>allOwn rfl) (hL.putD B.D)).mono (fun e u' w' ⟨hu,x1,he,hx⟩=>⟨hu,_,he,⟨⟨x1.1,x1.2.1,by rw[x1.2.2];rw[e3,e2,e1,e0,htx,hin];simp only[List.append_assoc]⟩,rfl,hx.pk [some 0,some 1]⟩⟩)) (by show _::B.D=_;rw[hD])
     ·
      have h4:o.2.2≠4:=by have hh:=hb5;simp only[beq_iff_eq,beq_eq_false_iff_ne,ne_eq] at hh ⊢;omega
      have h45:(if o.2.2=4 then 5 else o.2.2)=o.2.2:=by rw[if_neg h4]
      have hin:inS x o=txt y (o.2.2)++([32]++o.1++[32])++txt y2 (o.2.2+1):=by unfold inS;rw[if_neg h3,h45,txtAt_get _ hy,txtAt_get _ hy2]
      refine A4 ?_;refine at_regionM ?_;refine A3 ?_;refine r_indexAddrG (gg:=ga) (len:=z.n) (cap:=z.cap) (oa+0*7) u28 ti30 rfl rfl (congrArg (fun a=>some (Value.slice a z.n z.cap)) hza) rfl (by omega) (by omega) (by show oa+Int.toNat 0*7=_;rfl) ?_;refine r_loadT (v:=u.v) 2 (oa+0*7) u.cs rfl rfl rfl z.hT hma hna rfl ti30 hra rfl rfl rfl ?_;refine A1 ?_;refine Gm 2 [0,1] [2,3] (fun(d9:BdX (d0.s++txt y (o.2.2)))=>[BB g true d9.1,BF d9.1,_,_,_,_,_]) (by have h:=H y (XT.arg_lt hy) u (o.2.2) g true d0 hd0 (okXs_get hks hy) (XT.fits_get hfs hy) (Nat.le_trans (Nat.le_of_lt (XT.arg_lt hy)) hM) (by omega) (by have h:=hb;simp only[htx,hin,e0,List.length_append,List.length_cons,List.length_nil,sNot_len] at h ⊢;omega);rw[hTa] at h;exact h) (fun⟨d1,hd1,e1⟩=>?_);refine A3 ?_;refine at_regionM ?_;refine A3 ?_;refine r_addS (p:=[32]) (q:=o.1) rfl rfl rfl rfl rfl rfl rfl (by show 1+_≤_;omega) ?_;refine r_addS (p:=[32]++o.1) (q:=[32]) rfl rfl rfl rfl rfl rfl rfl (by rw[List.length_append];show 1+_+1≤_;omega) ?_;refine Gm 2 [0,1] [] (fun d1=>[BB g true d1.1,BF d1.1,_,_,_,_,_]) (c_b_WriteString g true d1 ([32]++o.1++[32]) hd1 (by have h:=hb;simp only[htx,hin,e0,e1,List.length_append,List.length_cons,List.length_nil,sNot_len] at h ⊢;omega)) (fun⟨d2,hd2,e2⟩=>?_);refine A3 ?_;refine at_regionM ?_;refine A3 ?_;refine r_indexAddrG (gg:=ga2) (len:=z.n) (cap:=z.cap) (oa2+1*7) u28 ti30 rfl rfl (congrArg (fun a=>some (Value.slice a z.n z.cap)) hza2) rfl (by omega) (by omega) (by show oa2+Int.toNat 1*7=_;rfl) ?_;refine r_loadT (v:=u2.v) 2 (oa2+1*7) u2.cs rfl rfl rfl z.hT hma2 hna2 rfl ti30 hra2 rfl rfl rfl ?_;refine A1 ?_;refine Gm 2 [0,1] [2,3] (fun(d9:BdX (d2.s++txt y2 (o.2.2+1)))=>[BB g true d9.1,BF d9.1,_,_,_,_,_]) (by have h:=H y2 (XT.arg_lt hy2) u2 (o.2.2+1) g true d2 hd2 (okXs_get hks hy2) (XT.fits_get hfs hy2) (Nat.le_trans (Nat.le_of_lt (XT.arg_lt hy2)) hM) (by omega) (by have h:=hb;simp only[htx,hin,e0,e1,e2,List.length_append,List.length_cons,List.length_nil,sNot_len] at h ⊢;omega);rw[hTa2] at h;exact h) (fun⟨d3,hd3,e3⟩=>?_);refine A8 ?_;refine at_leave1 (vs:=[.pointer (some ⟨g,0,none⟩),.int .u8 ((41:UInt8).toNat:Nat)]) rfl (by kernel_rfl) (fun w hL=>((c_b_WriteByteD g true d3 41 hd3 (by have h:=hb;simp only[htx,hin,e0,e3,e2,e1,List.length_append,List.length_cons,List.length_nil,sNot_len] at h ⊢;omega)).at (A:=[BB g true d3,BF d3]) (C:=[]) [0,1] [] (by decide) rfl rfl trivial rfl rfl (fun _=>rfl) (fun _=>allOwn rfl) (hL.putD B.D)).mono (fun e u' w' ⟨hu,x1,he,hx⟩=>⟨hu,_,he,⟨⟨x1.1,x1.2.1,by rw[x1.2.2];rw[e3,e2,e1,e0,htx,hin];simp only[List.append_assoc]⟩,rfl,hx.pk [some 0,some 1]⟩⟩)) (by show _::B.D=_;rw[hD])
   ·
    have hlv:¬o.2.2<lv:=by have:=of_decide_eq_false hb3;omega
    have htx:txt x lv=inS x o:=by rw[txt_op hfo,if_neg hlv]
    refine A3 ?_;refine at_drawnI [2000000] mixed (by kernel_rfl) (by kernel_rfl) ?_;refine A4 ?_;refine Ar (((o.2.2+1:Nat):Int)) ?_;refine A18 ?_;refine at_cond rfl (fun hb4=>?_) (fun hb4=>?_)
    ·
     have h3:o.2.2=3:=by have hh:=hb4;simp only[beq_iff_eq,beq_eq_false_iff_ne,ne_eq] at hh ⊢;omega
     have hna1:=hn1 h3
     obtain⟨y,hy⟩:∃y,x.args[0]? =some y:=⟨x.args[0]'(by omega),List.getElem?_eq_getElem _⟩
     obtain⟨ga,oa,ca,u,hza,hma,hra,hTa,hna⟩:=z.arg hy
     have hin:inS x o=sNot++txt y 3:=by unfold inS;rw[if_pos h3,txtAt_get _ hy]
     refine A1 ?_;refine at_regionM ?_;refine A1 ?_;refine Gm 2 [0,1] [] (fun d1=>[BB g true d1.1,BF d1.1,_,_,_,_,_]) (c_b_WriteString g a d sNot hd (by have h:=hb;simp only[htx,hin,List.length_append,List.length_cons,List.length_nil,sNot_len] at h ⊢;omega)) (fun⟨d1,hd1,e1⟩=>?_);refine A3 ?_;refine at_regionM ?_;refine A3 ?_;refine r_indexAddrG (gg:=ga) (len:=z.n) (cap:=z.cap) (oa+0*7) u28 ti30 rfl rfl (congrArg (fun a=>some (Value.slice a z.n z.cap)) hza) rfl (by omega) (by omega) (by show oa+Int.toNat 0*7=_;rfl) ?_;refine r_loadT (v:=u.v) 2 (oa+0*7) u.cs rfl rfl rfl z.hT hma hna rfl ti30 hra rfl rfl rfl ?_;refine Gm 2 [0,1] [2,3] (fun(d9:BdX (d1.s++txt y (3)))=>[BB g true d9.1,BF d9.1,_,_,_,_,_]) (by have h:=H y (XT.arg_lt hy) u (3) g true d1 hd1 (okXs_get hks hy) (XT.fits_get hfs hy) (Nat.le_trans (Nat.le_of_lt (XT.arg_lt hy)) hM) (by omega) (by have h:=hb;simp only[htx,hin,e1,List.length_append,List.length_cons,List.length_nil,sNot_len] at h ⊢;omega);rw[hTa] at h;exact h) (fun⟨d2,hd2,e2⟩=>?_);refine A10 ?_;refine at_end0D rfl (fun w hL=>⟨⟨d2,hd2,by rw[e2,e1,htx,hin];simp only[List.append_assoc]⟩,rfl,hL.pk [some 0,some 1]⟩)
    ·
     have h3:o.2.2≠3:=by have hh:=hb4;simp only[beq_iff_eq,beq_eq_false_iff_ne,ne_eq] at hh ⊢;omega
     have hna1:=hn2 h3
     obtain⟨y,hy⟩:∃y,x.args[0]? =some y:=⟨x.args[0]'(by omega),List.getElem?_eq_getElem _⟩
     obtain⟨ga,oa,ca,u,hza,hma,hra,hTa,hna⟩:=z.arg hy
     obtain⟨y2,hy2⟩:∃y,x.args[1]? =some y:=⟨x.args[1]'(by omega),List.getElem?_eq_getElem _⟩
     obtain⟨ga2,oa2,ca2,u2,hza2,hma2,hra2,hTa2,hna2⟩:=z.arg hy2;refine A6 ?_;refine at_cond rfl (fun hb5=>?_) (fun hb5=>?_)
     ·
      have h4:o.2.2=4:=by have hh:=hb5;simp only[beq_iff_eq,beq_eq_false_iff_ne,ne_eq] at hh ⊢;omega
      have h45:(if o.2.2=4 then 5 else o.2.2)=o.2.2+1:=by rw[if_pos h4];omega
      have hin:inS x o=txt y (o.2.2+1)++([32]++o.1++[32])++txt y2 (o.2.2+1):=by unfold inS;rw[if_neg h3,h45,txtAt_get _ hy,txtAt_get _ hy2]
      refine A2 ?_;refine Ar (((o.2.2+1:Nat):Int)) ?_;refine A5 ?_;refine at_regionM ?_;refine A3 ?_;refine r_indexAddrG (gg:=ga) (len:=z.n) (cap:=z.cap) (oa+0*7) u28 ti30 rfl rfl (congrArg (fun a=>some (Value.slice a z.n z.cap)) hza) rfl (by omega) (by omega) (by show oa+Int.toNat 0*7=_;rfl) ?_;refine r_loadT (v:=u.v) 2 (oa+0*7) u.cs rfl rfl rfl z.hT hma hna rfl ti30 hra rfl rfl rfl ?_;refine A1 ?_;refine Gm 2 [0,1] [2,3] (fun(d9:BdX (d.s++txt y (o.2.2+1)))=>[BB g true d9.1,BF d9.1,_,_,_,_,_]) (by have h:=H y (XT.arg_lt hy) u (o.2.2+1) g a d hd (okXs_get hks hy) (XT.fits_get hfs hy) (Nat.le_trans (Nat.le_of_lt (XT.arg_lt hy)) hM) (by omega) (by have h:=hb;simp only[htx,hin,List.length_append,List.length_cons,List.length_nil,sNot_len] at h ⊢;omega);rw[hTa] at h;exact h) (fun⟨d1,hd1,e1⟩=>?_);refine A3 ?_;refine at_regionM ?_;refine A3 ?_;refine r_addS (p:=[32]) (q:=o.1) rfl rfl rfl rfl rfl rfl rfl (by show 1+_≤_;omega) ?_;refine r_addS (p:=[32]++o.1) (q:=[32]) rfl rfl rfl rfl rfl rfl rfl (by rw[List.length_append];show 1+_+1≤_;omega) ?_;refine Gm 2 [0,1] [] (fun d1=>[BB g true d1.1,BF d1.1,_,_,_,_,_]) (c_b_WriteString g true d1 ([32]++o.1++[32]) hd1 (by have h:=hb;simp only[htx,hin,e1,List.length_append,List.length_cons,List.length_nil,sNot_len] at h ⊢;omega)) (fun⟨d2,hd2,e2⟩=>?_);refine A3 ?_;refine at_regionM ?_;refine A3 ?_;refine r_indexAddrG (gg:=ga2) (len:=z.n) (cap:=z.cap) (oa2+1*7) u28 ti30 rfl rfl (congrArg (fun a=>some (Value.slice a z.n z.cap)) hza2) rfl (by omega) (by omega) (by show oa2+Int.toNat 1*7=_;rfl) ?_;refine r_loadT (v:=u2.v) 2 (oa2+1*7) u2.cs rfl rfl rfl z.hT hma2 hna2 rfl ti30 hra2 rfl rfl rfl ?_;refine A1 ?_;refine Gm 2 [0,1] [2,3] (fun(d9:BdX (d2.s++txt y2 (o.2.2+1)))=>[BB g true d9.1,BF d9.1,_,_,_,_,_]) (by have h:=H y2 (XT.arg_lt hy2) u2 (o.2.2+1) g true d2 hd2 (okXs_get hks hy2) (XT.fits_get hfs hy2) (Nat.le_trans (Nat.le_of_lt (XT.arg_lt hy2)) hM) (by omega) (by have h:=hb;simp only[htx,hin,e1,e2,List.length_append,List.length_cons,List.length_nil,sNot_len] at h ⊢;omega);rw[hTa2] at h;exact h) (fun⟨d3,hd3,e3⟩=>?_);refine A8 ?_;refine at_end0D rfl (fun w hL=>⟨⟨d3,hd3,by rw[e3,e2,e1,htx,hin];simp only[List.append_assoc]⟩,rfl,hL.pk [some 0,some 1]⟩)
     ·
      have h4:o.2.2≠4:=by have hh:=hb5;simp only[beq_iff_eq,beq_eq_false_iff_ne,ne_eq] at hh ⊢;omega
      have h45:(if o.2.2=4 then 5 else o.2.2)=o.2.2:=by rw[if_neg h4]
      have hin:inS x o=txt y (o.2.2)++([32]++o.1++[32])++txt y2 (o.2.2+1):=by unfold inS;rw[if_neg h3,h45,txtAt_get _ hy,txtAt_get _ hy2]
      refine A4 ?_;refine at_regionM ?_;refine A3 ?_;refine r_indexAddrG (gg:=ga) (len:=z.n) (cap:=z.cap) (oa+0*7) u28 ti30 rfl rfl (congrArg (fun a=>some (Value.slice a z.n z.cap)) hza) rfl (by omega) (by omega) (by show oa+Int.toNat 0*7=_;rfl) ?_;refine r_loadT (v:=u.v) 2 (oa+0*7) u.cs rfl rfl rfl z.hT hma hna rfl ti30 hra rfl rfl rfl ?_;refine A1 ?_;refine Gm 2 [0,1] [2,3] (fun(d9:BdX (d.s++txt y (o.2.2)))=>[BB g true d9.1,BF d9.1,_,_,_,_,_]) (by have h:=H y (XT.arg_lt hy) u (o.2.2) g a d hd (okXs_get hks hy) (XT.fits_get hfs hy) (Nat.le_trans (Nat.le_of_lt (XT.arg_lt hy)) hM) (by omega) (by have h:=hb;simp only[htx,hin,List.length_append,List.length_cons,List.length_nil,sNot_len] at h ⊢;omega);rw[hTa] at h;exact h) (fun⟨d1,hd1,e1⟩=>?_);refine A3 ?_;refine at_regionM ?_;refine A3 ?_;refine r_addS (p:=[32]) (q:=o.1) rfl rfl rfl rfl rfl rfl rfl (by show 1+_≤_;omega) ?_;refine r_addS (p:=[32]++o.1) (q:=[32]) rfl rfl rfl rfl rfl rfl rfl (by rw[List.length_append];show 1+_+1≤_;omega) ?_;refine Gm 2 [0,1] [] (fun d1=>[BB g true d1.1,BF d1.1,_,_,_,_,_]) (c_b_WriteString g true d1 ([32]++o.1++[32]) hd1 (by have h:=hb;simp only[htx,hin,e1,List.length_append,List.length_cons,List.length_nil,sNot_len] at h ⊢;omega)) (fun⟨d2,hd2,e2⟩=>?_);refine A3 ?_;refine at_regionM ?_;refine A3 ?_;refine r_indexAddrG (gg:=ga2) (len:=z.n) (cap:=z.cap) (oa2+1*7) u28 ti30 rfl rfl (congrArg (fun a=>some (Value.slice a z.n z.cap)) hza2) rfl (by omega) (by omega) (by show oa2+Int.toNat 1*7=_;rfl) ?_;refine r_loadT (v:=u2.v) 2 (oa2+1*7) u2.cs rfl rfl rfl z.hT hma2 hna2 rfl ti30 hra2 rfl rfl rfl ?_;refine A1 ?_;refine Gm 2 [0,1] [2,3] (fun(d9:BdX (d2.s++txt y2 (o.2.2+1)))=>[BB g true d9.1,BF d9.1,_,_,_,_,_]) (by have h:=H y2 (XT.arg_lt hy2) u2 (o.2.2+1) g true d2 hd2 (okXs_get hks hy2) (XT.fits_get hfs hy2) (Nat.le_trans (Nat.le_of_lt (XT.arg_lt hy2)) hM) (by omega) (by have h:=hb;simp only[htx,hin,e1,e2,List.length_append,List.length_cons,List.length_nil,sNot_len] at h ⊢;omega);rw[hTa2] at h;exact h) (fun⟨d3,hd3,e3⟩=>?_);refine A8 ?_;refine at_end0D rfl (fun w hL=>⟨⟨d3,hd3,by rw[e3,e2,e1,htx,hin];simp only[List.append_assoc]⟩,rfl,hL.pk [some 0,some 1]⟩)
 ·exact absurd (find_none_all hI (by have:=of_decide_eq_false hb1;show 12≤i;omega)) hop
theorem c_write(m:Int)(x:XT):WriC m x:=by
 suffices h:∀k:Nat,∀x:XT,x.size<k→WriC m x from h _ x (Nat.lt_succ_self _)
 intro k
 induction k with
 |zero=>intro x h;omega
 |succ k ih=>
  intro x hx z lv g a d hd hok hf hM hlv hb
  have H:∀y:XT,y.size<x.size→WriC m y:=fun y hy=>ih y (by omega)
  by_cases hop:opsT.find? (fun f=>decide ((f.2.1:Int)=x.op))=none
  ·rw[txt_leaf hop lv] at hb ⊢
   exact c_write_leaf z m H hok hf hM lv g a d hd hop (kind_ok (okX_parts hok).1 hop) hb
  ·exact c_write_op z m H hok hf hM lv g hlv a d hd hop hb
def prT(t:Bs8):Bs8:=if 4096<t.length then[] else t
def prC(t:Bs8):Int:=if 4096<t.length then 28 else 0
abbrev prV(t:Bs8):Value:= .tuple #[.string (strU (prT t)),.int .i64 (prC t)]
noncomputable def prET(x:XT):Bs8:=if chkE x=0 then prT (txt x 1) else[]
noncomputable def prEC(x:XT):Int:=if chkE x=0 then prC (txt x 1) else(chkE x:Nat)
theorem c_printed{x:XT}(z:XR x)(m:Int)(hok:okX x)(hf:x.fit=true)(hM:x.size≤1000000000)(hs:Bs8)(hb:hs.length+(txt x 1).length≤17179869184):ECall Tryz.prog 59 [gB z.T false,GM m] [.string (strU hs),z.v] Unit (fun _=>prV (hs++txt x 1)) (fun _=>[]):=by
 refine⟨by kernel_rfl,fun B w hD hL0=>?_⟩;refine cB2 14 Tryz.func59 hL0 ?_;refine A2 ?_;refine Bo [_,_,_,_,_,_,_] 7 (fun g=>[_,_,⟨some g,30,_,7,true⟩]) (fun g0=>?_);refine A6 ?_;refine r_alloc [_,_] 2 (fun g=>[_,_,_,⟨some g,127,_,2,true⟩]) rfl rfl z127 rfl rfl (fun _=>rfl) (fun g1=>?_);refine A3 ?_;refine at_weakL (L':=[_,_,_,BB g1 false bd0,BF bd0]) (Weak.nilB _ (by decide)) ?_;refine at_regionM ?_;refine A1 ?_;refine r_gcallM (A:=[BB g1 false bd0,BF bd0]) (C:=[]) [.pointer (some ⟨g1,0,none⟩),.string (strU hs)] [3,4] [] (fun(d9:BdX (bd0.s++hs))=>[_,_,_,BB g1 true d9.1,BF d9.1]) rfl rfl rfl rfl (c_b_WriteString g1 false bd0 hs bd0_ok (by show 0+_≤_;omega)) (by decide) rfl rfl trivial rfl rfl (fun _=>rfl) (fun _=>allOwn rfl) (fun _=>rfl) (fun⟨d1,hd1,e1⟩=>?_);refine A3 ?_;refine at_regionM ?_;refine Ld 2 0 [_,_,_,_,_,_,_] ti30 ?_;refine Kr 9 (z.v) ?_;refine r_gcallM (A:=[BB g1 true d1,BF d1]) (C:=[gB z.T false,GM m]) [.pointer (some ⟨g1,0,none⟩),z.v,.int .i64 (1:Nat)] [3,4] [0,1] (fun(d9:BdX (d1.s++txt x 1))=>[_,_,_,BB g1 true d9.1,BF d9.1]) rfl rfl rfl rfl (c_write m x z 1 g1 true d1 hd1 hok hf hM (by decide) (by rw[e1,List.length_append];show 0+_+_≤_;omega)) (by decide) rfl rfl ⟨⟨_,rfl,Blk.le_refl _⟩,⟨_,rfl,Blk.le_refl _⟩,trivial⟩ rfl rfl (fun _=>rfl) (fun _=>allOwn rfl) (fun _=>rfl) (fun⟨d2,hd2,e2⟩=>?_);refine A4 ?_
 have e3:d2.s=hs++txt x 1:=(by rw[e2,e1];rfl);refine at_regionM ?_;refine r_scall0 [.pointer (some ⟨g1,0,none⟩)] [3] rfl rfl rfl (c_b_Len g1 true d2) ⟨⟨_,rfl,le_share⟩,trivial⟩ rfl ?_;refine A3 ?_;refine Cd ?_ ?_<;>intro hb0
 ·have hl:4096<(hs++txt x 1).length:=by rw[←e3];have:=of_decide_eq_true hb0;omega
  refine A8 ?_;refine at_end2 rfl (res_tmp rfl) (res_tmp rfl) (fun w hL=>⟨(),by unfold prV prT prC;rw[if_pos hl,if_pos hl];rfl,hL.pk []⟩)
 ·have hl:¬4096<(hs++txt x 1).length:=by rw[←e3];have:=of_decide_eq_false hb0;omega
  refine A3 ?_;refine at_regionM ?_;refine Gm 2 [3,4] [] (fun _=>[_,_,_,BB g1 true d2,BZ d2]) (c_b_String g1 true d2 hd2 (by rw[e3,List.length_append];omega)) (fun _=>?_);refine A5 ?_;refine at_end2 rfl (res_tmp rfl) (res_tmp rfl) (fun w hL=>⟨(),by unfold prV prT prC;rw[if_neg hl,if_neg hl,←e3],hL.pk []⟩)
theorem c_PrintExpr{x:XT}(z:XR x)(m:Int)(hf:x.fit=true)(hM:x.size≤1000000000)(hb:chkE x=0→(txt x 1).length≤17179869184):ECall Tryz.prog 36 [gB z.T false,GM m] [z.v] Unit (fun _=> .tuple #[.string (strU (prET x)),.int .i64 (prEC x)]) (fun _=>[]):=by
 refine⟨by kernel_rfl,fun B w hD hL0=>?_⟩;refine cB1 14 Tryz.func36 hL0 ?_;refine A2 ?_;refine Bo [_,_,_,_,_,_,_] 7 (fun g=>[_,_,⟨some g,30,_,7,true⟩]) (fun g0=>?_);refine A6 ?_;refine at_regionM ?_;refine Ld 2 0 [_,_,_,_,_,_,_] ti30 ?_;refine Kr 5 (z.v) ?_;refine Gm 0 [] [0] (fun _=>[_,_,_]) (c_CheckExpr z hf) (fun _=>?_);refine A9 ?_;refine Cd ?_ ?_<;>intro hb0
 ·have kc:chkE x≠0:=by simpa using hb0
  refine A9 ?_;refine at_end2 rfl (res_tmp rfl) (res_tmp rfl) (fun w hL=>⟨(),by unfold prET prEC;rw[if_neg kc,if_neg kc];rfl,hL.pk []⟩)
 ·have kc:chkE x=0:=by simpa using hb0
  refine A3 ?_;refine at_regionM ?_;refine Ld 2 0 [_,_,_,_,_,_,_] ti30 ?_;refine Kr 10 (z.v) ?_;refine r_gcallM (A:=[]) (C:=[gB z.T false,GM m]) [.string (strU []),z.v] [] [0,1] (fun _=>[_,_,_]) rfl rfl rfl rfl (c_printed z m (chk_ok x 1 0 kc) hf hM [] (by show 0+_≤_;have:=hb kc;omega)) (by decide) rfl rfl ⟨⟨_,rfl,Blk.le_refl _⟩,⟨_,rfl,Blk.le_refl _⟩,trivial⟩ rfl rfl (fun _=>rfl) (fun _=>allOwn rfl) (fun _=>rfl) (fun _=>?_);refine A7 ?_;refine at_end2 rfl (res_tmp rfl) (res_tmp rfl) (fun w hL=>⟨(),by unfold prET prEC;rw[if_pos kc,if_pos kc];rfl,hL.pk []⟩)
theorem c_Variables_1{x:XT}(z:XR x)(lv gv:Nat){l:List Bs8}(s:SRw l)(hl:l.length+1≤17179869184):ECall Tryz.prog 54 [VV gv s,VR s] [z.v,.int .i64 (lv:Nat),.pointer (some ⟨gv,0,none⟩)] (SRw (l++(if x.op=4 then[x.name] else[]))) (fun _=> .tuple #[]) (fun s1=>[VV gv s1,VR s1]):=by
 refine⟨by kernel_rfl,fun B w hD hL0=>?_⟩;refine cB3 13 Tryz.func54 hL0 ?_;refine A2 ?_;refine Bo [_,_,_,_,_,_,_] 7 (fun g=>[_,_,⟨some g,30,_,7,true⟩]) (fun g0=>?_);refine A6 ?_;refine r_know 6 (.int .i64 x.op) rfl (by rw[z.inv.1]) ?_;refine A3 ?_;refine Cd ?_ ?_<;>intro hb0
 ·have hop:x.op=4:=by simpa using hb0
  refine A4 ?_;refine r_know 10 (.string (strU x.name)) rfl (by rw[z.inv.2.1]) ?_;refine r_buildSlice [(0,_)] (fun g=>[_,_,_,⟨some g,9,_,1,true⟩]) rfl rfl rfl (bs36_1) rfl (fun _=>rfl) (fun g1=>?_);refine q_append (b:=VR s) (len:=l.length) (cap:=s.cap) (n2:=1) 1 3 (fun r=>[_,⟨some r.g,9,SB l++[.string (strU x.name)],r.n,true⟩,_,_]) u36 el9 rfl rfl rfl rfl rfl rfl rfl rfl rfl rfl rfl rfl (by rw[SB_length,Nat.mul_one]) s.h1 (by rw[Nat.mul_one];exact s.h2) rfl (fun v hv=>by rw[List.mem_singleton.1 hv];rfl) hl (fun r=>rfl) (fun r=>?_);refine So 0 0 [⟨some gv,36,_,1,true⟩,_,_,_] [_] ?_;refine A1 ?_
  refine at_end0n rfl (fun w hL=>by
 refine⟨(SRw.add x.name r).cast (by rw[if_pos hop]),rfl,?_⟩;(try dsimp only);rw[SRw.cast_blk];exact SRw.add_blk x.name r s gv hL)
 ·have hop:x.op≠4:=by simpa using hb0
  refine A1 ?_
  refine at_end0n rfl (fun w hL=>by
 refine⟨s.cast (by rw[if_neg hop,List.append_nil]),rfl,?_⟩;(try dsimp only);rw[SRw.cast_blk];exact hL.pk [some 0,some 1])
theorem c_each_stepV{x:XT}(z:XR x)(gv:Nat)(H:∀y:XT,y.size<x.size→EachV gv y)(lv:Nat){l:List Bs8}(s:SRw l)(hM:l.length+x.size≤1000000000)(hN:lv+x.size≤1099511627776):ECall Tryz.prog 51 [VV gv s,VR s,gB z.T false] [z.v,.int .i64 (lv:Nat),.func (.func 54) #[] #[.pointer (some ⟨gv,0,none⟩)]] (SRw (l++varsL x)) (fun _=> .tuple #[]) (fun s1=>[VV gv s1,VR s1]):=by
 refine⟨by kernel_rfl,fun B w hD hL0=>?_⟩;obtain⟨h1,h2,h3,h4,h5,h6⟩:=z.inv;have hsz:=x.size_eq;have hal:=XT.len_sizes x.args
 have hite:(if x.op=4 then[x.name] else[]).length≤1:=by split<;>simp
 refine cB3 25 Tryz.func51 hL0 ?_;refine A2 ?_;refine Bo [_,_,_,_,_,_,_] 7 (fun g=>[_,_,_,⟨some g,30,_,7,true⟩]) (fun g0=>?_);refine A3 ?_;refine at_regionM ?_;refine A1 ?_;refine Ld 3 0 [_,_,_,_,_,_,_] ti30 ?_;refine Kr 9 (z.v) ?_;refine A1 ?_;refine r_gfcallM (f:=54) (A:=[VV gv s,VR s]) (C:=[]) [z.v,.int .i64 (lv:Nat)] [.pointer (some ⟨gv,0,none⟩)] [0,1] [] (fun s1=>[VV gv s1,VR s1,_,_]) rfl rfl rfl rfl rfl (c_Variables_1 z lv gv s (by omega)) (by decide) rfl rfl trivial rfl rfl (fun _=>rfl) (fun _=>allOwn rfl) (fun _=>rfl) (fun s1=>?_);refine A11 ?_;refine El (ι:={q:Nat×(m:List Bs8)×SRw m // q.1≤x.args.length∧l++varsL x=q.2.1++varsLs (x.args.drop q.1)∧q.2.1.length+XT.sizes (x.args.drop q.1)≤1000000000}) (fun⟨⟨i,m,s2⟩,hi,hI,hB⟩=>([(1,.int .i64 (lv:Nat)),(2,.func (.func 54) #[] #[.pointer (some ⟨gv,0,none⟩)]),(13,.slice z.a z.n z.cap),(14,.int .i64 (z.n:Nat)),(15,.int .i64 (i:Nat))],[VV gv s2,VR s2,gB z.T false],x.args.length-i)) ⟨(0,⟨_,s1⟩),Nat.zero_le _,by rw[varsL_eq,List.append_assoc];rfl,by rw[List.length_append];show _+XT.sizes x.args≤_;omega⟩ ?_ (hL:=Weak.auto);rintro⟨⟨i,m,s2⟩,hi,hI,hB⟩;(try dsimp only);dsimp only at hi hI hB;refine A6 ?_;refine Cd ?_ ?_<;>intro hb1
 ·have hlt:i<x.args.length:=by have:=of_decide_eq_true hb1;omega
  obtain⟨y,hy⟩:∃y,x.args[i]? =some y:=⟨x.args[i],List.getElem?_eq_getElem hlt⟩;obtain⟨ga,oa,ca,u,hza,hma,hra,hTa,hna⟩:=z.arg hy;have hsd:=XT.sizes_drop hy;have hyg:=XT.sizes_get hy;refine A6 ?_;refine r_indexAddrG (gg:=ga) (len:=z.n) (cap:=z.cap) (oa+i*7) u28 ti30 rfl rfl (congrArg (fun a=>some (Value.slice a z.n z.cap)) hza) rfl (by omega) (by omega) (by show oa+Int.toNat _*7=_;omega) ?_;refine r_loadT (v:=u.v) 2 (oa+i*7) u.cs rfl rfl rfl z.hT hma hna rfl ti30 hra rfl rfl rfl ?_;refine r_alloc [_,_,_,_,_,_,_] 7 (fun g=>[_,_,_,⟨some g,30,_,7,true⟩]) rfl rfl z30 rfl rfl (fun _=>rfl) (fun g1=>?_);refine So 3 0 [_,_,_,⟨some g1,30,_,7,true⟩] [_,_,_,_,_,_,_] ?_;refine A2 ?_;refine at_regionM ?_;refine Ld 3 0 [_,_,_,_,_,_,_] ti30 ?_;refine Kr 19 (u.v) ?_;refine A1 ?_;refine Ar (((lv+1:Nat):Int)) ?_;refine A1 ?_;refine Gm 2 [0,1] [2] (fun s3=>[VV gv s3,VR s3,_,_]) (by have h:=H y (XT.arg_lt hy) u (lv+1) m s2 (by omega) (by omega);rw[hTa] at h;exact h) (fun s3=>?_);refine A4 ?_;refine Ar (((i+1:Nat):Int)) ?_;refine A3 ?_;exact Nl ⟨(i+1,⟨_,s3⟩),hlt,by rw[hI,varsLs_step hy,List.append_assoc],by have:=varsL_len y;rw[List.length_append];show _+XT.sizes (x.args.drop (i+1))≤_;omega⟩ (hL:=Weak.auto)
 ·have hge:i=x.args.length:=by have:=of_decide_eq_false hb1;omega
  refine A4 ?_
  refine at_end0n rfl (fun w hL=>by
 have e:m=l++varsL x:=(by rw[hI,hge,List.drop_length,varsLs,List.append_nil]);refine⟨s2.cast e,rfl,?_⟩;(try dsimp only);rw[SRw.cast_blk];exact hL.pk [some 0,some 1])
theorem c_eachV(gv:Nat)(x:XT):EachV gv x:=by
 suffices h:∀k:Nat,∀x:XT,x.size<k→EachV gv x from h _ x (Nat.lt_succ_self _)
 intro k
 induction k with
 |zero=>intro x h;omega
 |succ k ih=>exact fun x hx u lv l s hM hN=>c_each_stepV u gv (fun y hy=>ih y (by omega)) lv s hM hN
theorem c_Variables{x:XT}(z:XR x)(hM:x.size≤1000000):ECall Tryz.prog 25 [gB z.T false] [z.v] (SRw (varsU x)) (fun s=>slv s.b 0 (varsU x).length s.cap) (fun s=>[VR s]):=by
 refine⟨by kernel_rfl,fun B w hD hL0=>?_⟩;have hvl:=varsL_len x
 have hul:(varsU x).length≤(varsL x).length:=(by have:=compact_le (sortL (varsL x));rw[sortL_len] at this;exact this);refine cB1 11 Tryz.func25 hL0 ?_;refine A2 ?_;refine Bo [_,_,_,_,_,_,_] 7 (fun g=>[_,⟨some g,30,_,7,true⟩]) (fun g0=>?_);refine A5 ?_;refine r_alloc [_] 1 (fun g=>[_,_,⟨some g,36,_,1,true⟩]) rfl rfl z36 rfl rfl (fun _=>rfl) (fun g1=>?_);refine A3 ?_;refine at_weakL (L':=[_,_,VV g1 SRw.zero,VR SRw.zero]) (Weak.nilB _ (by decide)) ?_;refine at_regionM ?_;refine Ld 1 0 [_,_,_,_,_,_,_] ti30 ?_;refine Kr 4 (z.v) ?_;refine A1 ?_;refine r_gcallM (A:=[VV g1 SRw.zero,VR SRw.zero]) (C:=[gB z.T false]) [z.v,.int .i64 (1:Nat),.func (.func 54) #[] #[.pointer (some ⟨g1,0,none⟩)]] [2,3] [0] (fun s1=>[_,_,VV g1 s1,VR s1]) rfl rfl rfl rfl (c_eachV g1 x z 1 [] SRw.zero (by show 0+_≤_;omega) (by omega)) (by decide) rfl rfl ⟨⟨_,rfl,Blk.le_refl _⟩,trivial⟩ rfl rfl (fun _=>rfl) (fun _=>allOwn rfl) (fun _=>rfl) (fun s1=>?_);refine A3 ?_;refine at_regionM ?_;refine A1 ?_;refine Gm 1 [3] [] (fun _=>[_,_,_,SBk s1.b (sortL (varsL x)) s1.n]) (c_Sort s1.b (varsL x) s1.n s1.cap (by omega) (Nat.le_trans s1.h1 s1.h2)) (fun _=>?_);refine A3 ?_;refine at_regionM ?_;refine A1 ?_;refine Gm 1 [3] [] (fun _=>[_,_,_,SBk s1.b (varsU x) s1.n]) (by have h:=c_Compact s1.b (sortL (varsL x)) s1.n s1.cap (by rw[sortL_len];omega) s1.h2 (by rw[sortL_len];exact s1.h1);rw[sortL_len] at h;exact h) (fun _=>?_);refine A4 ?_;refine at_end1 rfl (res_tmp rfl) (fun w hL=>⟨⟨s1.b,s1.n,s1.cap,Nat.le_trans hul s1.h1,s1.h2⟩,rfl,hL.pk [some 3]⟩)
noncomputable def chkQ(kind:Int)(l:List Bs8)(x:XT):Nat:=
 if kind<1∨3<kind then 4
 else if((l.length:Nat):Int)≠kind-1 then 5
 else if l.all nameL=false then 34
 else if l.length=2∧l[0]? =l[1]? then 8
 else if chkE x≠0 then chkE x
 else if(varsU x).all l.contains=false then 16
 else 0
abbrev QBx(g:Nat)(kind:Int)(b:Option Nat)(pre:List Value)(l:List Bs8)(cap:Nat){x:XT}(z:XR x):Blk:=⟨some g,39,[.int .i64 kind,slv b pre.length l.length cap,.int .i64 z.op,.string z.nm,.bool z.b1,.string z.s1,.bool z.b2,.string z.s2,.slice z.a z.n z.cap],9,true⟩
abbrev QV(kind:Int)(b:Option Nat)(pre:List Value)(l:List Bs8)(cap:Nat){x:XT}(z:XR x):Value:= .agg #[.int .i64 kind,slv b pre.length l.length cap,.int .i64 z.op,.string z.nm,.bool z.b1,.string z.s1,.bool z.b2,.string z.s2,.slice z.a z.n z.cap]
theorem all_false_at{α:Type}{f:α→Bool}{l:List α}{i:Nat}{v:α}(h:l[i]? =some v)(hf:f v=false):l.all f=false:=by
 rw[←Bool.not_eq_true]
 intro h2
 have:=List.all_eq_true.1 h2 v (List.mem_of_getElem? h)
 rw[hf] at this;cases this
theorem all_step{α:Type}{f:α→Bool}{l:List α}{i:Nat}{v:α}(hl:(l.take i).all f=true)(h:l[i]? =some v)(hf:f v=true):(l.take (i+1)).all f=true:=by
 rw[List.take_add_one,h,List.all_append,hl]
 simp[hf]
theorem all_full{α:Type}{f:α→Bool}{l:List α}{i:Nat}(hl:(l.take i).all f=true)(h:l.length≤i):l.all f=true:=by
 rwa [List.take_of_length_le h] at hl
theorem SB_ne{l:List Bs8}(h:0<l.length):SB l≠[]:=fun e=>by
 have:=congrArg List.length e
 rw[SB_length] at this
 simp at this
 subst this
 simp at h
theorem c_Check(kind:Int)(hk: -9223372036854775808≤kind∧kind≤9223372036854775807)(b:Option Nat)(e:Nat)(pre:List Value)(l:List Bs8)(n cap:Nat)(hll:l.length≤1000000)(hvl:∀v∈l,v.length≤1000000){x:XT}(z:XR x)(hf:x.fit=true)(hM:x.size≤1000000):ECall Tryz.prog 29 [VBk b e pre l n,gB z.T false] [QV kind b pre l cap z] Unit (fun _=> .int .i64 (chkQ kind l x:Nat)) (fun _=>[]):=by
 refine⟨by kernel_rfl,fun B w hD hL0=>?_⟩
 have hvx:(varsU x).length≤1000000:=by
  have h1:=compact_le (sortL (varsL x));rw[sortL_len] at h1;exact Nat.le_trans h1 (Nat.le_trans (varsL_len x) hM)
 refine cB1 71 Tryz.func29 hL0 ?_;refine A2 ?_;refine Bo [_,_,_,_,_,_,_,_,_] 9 (fun g=>[_,_,⟨some g,39,_,9,true⟩]) (fun g0=>?_);refine A11 ?_;refine Rs 12 ?_ ?_<;>intro hb0
 ·have k1:kind<1:=of_decide_eq_true hb0;refine A16 ?_;refine at_end1 rfl (res_tmp rfl) (fun w hL=>⟨(),eI (by unfold chkQ;rw[if_pos (.inl k1)]),hL.pk []⟩)
 ·have k1:¬kind<1:=of_decide_eq_false hb0;refine A7 ?_;refine Cd ?_ ?_<;>intro hb1
  ·have k3:3<kind:=of_decide_eq_true hb1;refine A8 ?_;refine at_end1 rfl (res_tmp rfl) (fun w hL=>⟨(),eI (by unfold chkQ;rw[if_pos (.inr k3)]),hL.pk []⟩)
  ·have k3:¬3<kind:=of_decide_eq_false hb1;refine A7 ?_;refine r_arith (r:=kind-1) rfl rfl rfl rfl (congrArg some (by rw[IntKind.wrap_i64];omega)) ?_;refine A4 ?_;refine Cd ?_ ?_<;>intro hb2
   ·have kl:((l.length:Nat):Int)≠kind-1:=by simpa using hb2
    refine A8 ?_;refine at_end1 rfl (res_tmp rfl) (fun w hL=>⟨(),eI (by unfold chkQ;rw[if_neg (fun h=>h.elim k1 k3),if_pos kl]),hL.pk []⟩)
   ·have kl:((l.length:Nat):Int)=kind-1:=by simpa using hb2
    refine A13 ?_;refine El (ι:={i:Nat // i≤l.length∧(l.take i).all nameL=true}) (fun⟨i,hi,hI⟩=>([(1,.pointer (some ⟨g0,0,none⟩)),(26,slv b pre.length l.length cap),(27,.int .i64 (l.length:Nat)),(28,.int .i64 (i:Nat))],[VBk b e pre l n,gB z.T false,QBx g0 kind b pre l cap z],l.length-i)) ⟨0,Nat.zero_le _,rfl⟩ ?_;rintro⟨i,hi,hI⟩;(try dsimp only);refine A6 ?_;refine Cd ?_ ?_<;>intro hb4
    ·have hlt:i<l.length:=by have:=of_decide_eq_true hb4;omega
     obtain⟨v,hv⟩:∃v,l[i]? =some v:=⟨l[i],List.getElem?_eq_getElem hlt⟩;refine A6 ?_;refine r_indexAddr 0 (pre.length+i*1) u36 ti9 rfl rfl rfl rfl rfl (by omega) (by omega) (pre_ne (SB_ne (by omega))) (by show pre.length+Int.toNat _*1=_;omega) ?_;refine r_load (v:= .string (strU v)) 0 (pre.length+i*1) _ rfl rfl rfl rfl ti9 (pre_get (SB_get hv) rfl) rfl (by decide) rfl ?_;refine A6 ?_;refine Pc (c_syntax_IsName v (hvl v (List.mem_of_getElem? hv))) ?_;refine A3 ?_;refine Cd ?_ ?_<;>intro hb5
     ·have hnv:nameL v=false:=by simpa using hb5
      refine A11 ?_;refine at_end1 rfl (res_tmp rfl) (fun w hL=>⟨(),eI (by unfold chkQ;rw[if_neg (fun h=>h.elim k1 k3),if_neg (fun h=>h kl),if_pos (all_false_at hv hnv)]),hL.pk []⟩)
     ·have hnv:nameL v=true:=by simpa using hb5
      refine A4 ?_;refine Ar (((i+1:Nat):Int)) ?_;refine A3 ?_;exact Nl ⟨i+1,hlt,all_step hI hv hnv⟩
    ·have hge:l.length≤i:=by have:=of_decide_eq_false hb4;omega
     have hN:=all_full hI hge;refine A7 ?_;refine at_drawnI [] mixed (by kernel_rfl) (by kernel_rfl) ?_;refine A5 ?_;refine Rs 40 ?_ ?_<;>intro hb5
     ·have k2:l.length=2:=by have:=eq_of_beq hb5;omega
      obtain⟨v0,hv0⟩:∃v,l[0]? =some v:=⟨l[0]'(by omega),List.getElem?_eq_getElem _⟩;obtain⟨v1,hv1⟩:∃v,l[1]? =some v:=⟨l[1]'(by omega),List.getElem?_eq_getElem _⟩;refine A2 ?_;refine r_indexAddr 0 (pre.length+0*1) u36 ti9 rfl rfl rfl rfl rfl (by omega) (by omega) (pre_ne (SB_ne (by omega))) (by show pre.length+Int.toNat _*1=_;omega) ?_;refine r_load (v:= .string (strU v0)) 0 (pre.length+0*1) _ rfl rfl rfl rfl ti9 (pre_get (SB_get hv0) rfl) rfl (by decide) rfl ?_;refine A2 ?_;refine r_indexAddr 0 (pre.length+1*1) u36 ti9 rfl rfl rfl rfl rfl (by omega) (by omega) (pre_ne (SB_ne (by omega))) (by show pre.length+Int.toNat _*1=_;omega) ?_;refine r_load (v:= .string (strU v1)) 0 (pre.length+1*1) _ rfl rfl rfl rfl ti9 (pre_get (SB_get hv1) rfl) rfl (by decide) rfl ?_;refine A4 ?_;refine Cd ?_ ?_<;>intro hb6
      ·have ke:(v0==v1)=true:=by have hh:=hb6;rw[strU_beq] at hh;exact hh
       refine A7 ?_;refine at_end1 rfl (res_tmp rfl) (fun w hL=>⟨(),eI (by unfold chkQ;rw[if_neg (fun h=>h.elim k1 k3),if_neg (fun h=>h kl),if_neg (by rw[hN];simp),if_pos ⟨k2,by rw[hv0,hv1];simpa using ke⟩]),hL.pk []⟩)
      ·have ke:(v0==v1)=false:=by have hh:=hb6;rw[strU_beq] at hh;exact hh
       refine A4 ?_;refine at_regionM ?_;refine A1 ?_;refine Ld 2 2 [_,_,_,_,_,_,_] ti30 ?_;refine Kr 52 (z.v) ?_;refine Gm 0 [] [1] (fun _=>[_,_,_]) (c_CheckExpr z hf) (fun _=>?_);refine A9 ?_;refine Cd ?_ ?_<;>intro hb7
       ·have kc:chkE x≠0:=by simpa using hb7
        refine A8 ?_;refine at_end1 rfl (res_tmp rfl) (fun w hL=>⟨(),eI (by unfold chkQ;rw[if_neg (fun h=>h.elim k1 k3),if_neg (fun h=>h kl),if_neg (by rw[hN];simp),if_neg (fun h=>by have h2:=h.2;rw[hv0,hv1] at h2;rw[Option.some.inj h2,beq_self_eq_true] at ke;cases ke),if_pos kc]),hL.pk []⟩)
       ·have kc:chkE x=0:=by simpa using hb7
        refine A4 ?_;refine at_regionM ?_;refine A1 ?_;refine Ld 2 2 [_,_,_,_,_,_,_] ti30 ?_;refine Kr 58 (z.v) ?_;refine Gm 0 [] [1] (fun s=>[_,_,_,VR s]) (c_Variables z hM) (fun s=>?_);refine A5 ?_;refine El (ι:={i:Nat // i≤(varsU x).length∧((varsU x).take i).all l.contains=true}) (fun⟨i,hi,hI⟩=>([(1,.pointer (some ⟨g0,0,none⟩)),(59,slv s.b 0 (varsU x).length s.cap),(60,.int .i64 ((varsU x).length:Nat)),(61,.int .i64 (i:Nat))],[VBk b e pre l n,gB z.T false,QBx g0 kind b pre l cap z,VR s],(varsU x).length-i)) ⟨0,Nat.zero_le _,rfl⟩ ?_;rintro⟨i,hi,hI⟩;(try dsimp only);refine A6 ?_;refine Cd ?_ ?_<;>intro hb9
        ·have hlt:i<(varsU x).length:=by have:=of_decide_eq_true hb9;omega
         obtain⟨u,hu⟩:∃v,(varsU x)[i]? =some v:=⟨(varsU x)[i],List.getElem?_eq_getElem hlt⟩;refine A6 ?_;refine Ix 3 (i*1) ?_;refine r_load (v:= .string (strU u)) 3 (i*1) _ rfl rfl rfl rfl ti9 (SB_get hu) rfl (by decide) rfl ?_;refine A8 ?_;refine r_scall0 [slv b pre.length l.length cap,.string (strU u)] [0] rfl rfl rfl (c_Contains b e pre l n cap hll u) ⟨⟨_,rfl,Blk.le_refl _⟩,trivial⟩ rfl ?_;refine A3 ?_;refine Cd ?_ ?_<;>intro hb10
         ·have huc:l.contains u=false:=by simpa using hb10
          refine A11 ?_;refine at_end1 rfl (res_tmp rfl) (fun w hL=>⟨(),eI (by unfold chkQ;rw[if_neg (fun h=>h.elim k1 k3),if_neg (fun h=>h kl),if_neg (by rw[hN];simp),if_neg (fun h=>by have h2:=h.2;rw[hv0,hv1] at h2;rw[Option.some.inj h2,beq_self_eq_true] at ke;cases ke),if_neg (fun h=>h kc),if_pos (all_false_at hu huc)]),hL.pk []⟩)
         ·have huc:l.contains u=true:=by simpa using hb10
          refine A4 ?_;refine Ar (((i+1:Nat):Int)) ?_;refine A3 ?_;exact Nl ⟨i+1,hlt,all_step hI hu huc⟩
        ·have hge:(varsU x).length≤i:=by have:=of_decide_eq_false hb9;omega
         have hV:=all_full hI hge;refine A11 ?_;refine at_end1 rfl (res_tmp rfl) (fun w hL=>⟨(),eI (by unfold chkQ;rw[if_neg (fun h=>h.elim k1 k3),if_neg (fun h=>h kl),if_neg (by rw[hN];simp),if_neg (fun h=>by have h2:=h.2;rw[hv0,hv1] at h2;rw[Option.some.inj h2,beq_self_eq_true] at ke;cases ke),if_neg (fun h=>h kc),if_neg (by rw[hV];simp)]),hL.pk []⟩)
     ·have k2:l.length≠2:=by have:=ne_of_beq_false hb5;omega
      refine A17 ?_;refine at_regionM ?_;refine A1 ?_;refine Ld 2 2 [_,_,_,_,_,_,_] ti30 ?_;refine Kr 52 (z.v) ?_;refine Gm 0 [] [1] (fun _=>[_,_,_]) (c_CheckExpr z hf) (fun _=>?_);refine A9 ?_;refine Cd ?_ ?_<;>intro hb6
      ·have kc:chkE x≠0:=by simpa using hb6
       refine A8 ?_;refine at_end1 rfl (res_tmp rfl) (fun w hL=>⟨(),eI (by unfold chkQ;rw[if_neg (fun h=>h.elim k1 k3),if_neg (fun h=>h kl),if_neg (by rw[hN];simp),if_neg (fun h=>k2 h.1),if_pos kc]),hL.pk []⟩)
      ·have kc:chkE x=0:=by simpa using hb6
       refine A4 ?_;refine at_regionM ?_;refine A1 ?_;refine Ld 2 2 [_,_,_,_,_,_,_] ti30 ?_;refine Kr 58 (z.v) ?_;refine Gm 0 [] [1] (fun s=>[_,_,_,VR s]) (c_Variables z hM) (fun s=>?_);refine A5 ?_;refine El (ι:={i:Nat // i≤(varsU x).length∧((varsU x).take i).all l.contains=true}) (fun⟨i,hi,hI⟩=>([(1,.pointer (some ⟨g0,0,none⟩)),(59,slv s.b 0 (varsU x).length s.cap),(60,.int .i64 ((varsU x).length:Nat)),(61,.int .i64 (i:Nat))],[VBk b e pre l n,gB z.T false,QBx g0 kind b pre l cap z,VR s],(varsU x).length-i)) ⟨0,Nat.zero_le _,rfl⟩ ?_;rintro⟨i,hi,hI⟩;(try dsimp only);refine A6 ?_;refine Cd ?_ ?_<;>intro hb8
       ·have hlt:i<(varsU x).length:=by have:=of_decide_eq_true hb8;omega
        obtain⟨u,hu⟩:∃v,(varsU x)[i]? =some v:=⟨(varsU x)[i],List.getElem?_eq_getElem hlt⟩;refine A6 ?_;refine Ix 3 (i*1) ?_;refine r_load (v:= .string (strU u)) 3 (i*1) _ rfl rfl rfl rfl ti9 (SB_get hu) rfl (by decide) rfl ?_;refine A8 ?_;refine r_scall0 [slv b pre.length l.length cap,.string (strU u)] [0] rfl rfl rfl (c_Contains b e pre l n cap hll u) ⟨⟨_,rfl,Blk.le_refl _⟩,trivial⟩ rfl ?_;refine A3 ?_;refine Cd ?_ ?_<;>intro hb9
        ·have huc:l.contains u=false:=by simpa using hb9
         refine A11 ?_;refine at_end1 rfl (res_tmp rfl) (fun w hL=>⟨(),eI (by unfold chkQ;rw[if_neg (fun h=>h.elim k1 k3),if_neg (fun h=>h kl),if_neg (by rw[hN];simp),if_neg (fun h=>k2 h.1),if_neg (fun h=>h kc),if_pos (all_false_at hu huc)]),hL.pk []⟩)
        ·have huc:l.contains u=true:=by simpa using hb9
         refine A4 ?_;refine Ar (((i+1:Nat):Int)) ?_;refine A3 ?_;exact Nl ⟨i+1,hlt,all_step hI hu huc⟩
       ·have hge:(varsU x).length≤i:=by have:=of_decide_eq_false hb8;omega
        have hV:=all_full hI hge;refine A11 ?_;refine at_end1 rfl (res_tmp rfl) (fun w hL=>⟨(),eI (by unfold chkQ;rw[if_neg (fun h=>h.elim k1 k3),if_neg (fun h=>h kl),if_neg (by rw[hN];simp),if_neg (fun h=>k2 h.1),if_neg (fun h=>h kc),if_neg (by rw[hV];simp)]),hL.pk []⟩)
end Go.Proofs.YtfijbadahkmhbaaGreatDoor
namespace Go.Via
open Go Go.RowKit
def p0(s:Bs8):Ps:=⟨s,0,0,0,[],0,0,false⟩
abbrev XBr(g:Nat){x:XT}(z:XR x):Blk:=⟨some g,30,z.cs,7,false⟩
def Ps.endP(p:Ps):Ps:=if p.fail=false∧p.k≠0 then p.stop 15 else p
def Ps.endA(p:Ps):Nat:=if p.endP.fail=true then p.endP.bat else 0
def Ps.endE(p:Ps)(e:Nat):Nat:=if p.endP.fail=true then p.endP.be else e
end Go.Via
namespace Go.Proofs.YtfijbadahkmhbaaGreatDoor
open Go Go.RowKit Go.Via
theorem c_start_ok(s:Bs8)(hs:s.length≤4096):ECall Tryz.prog 61 [] [.string (strU s)] Nat (fun g=> .tuple #[.pointer (some ⟨g,0,none⟩),.int .i64 0]) (fun g=>[PB g (p0 s).adv true]):=by
 refine⟨by kernel_rfl,fun B w hD hL0=>?_⟩;refine cB1 14 Tryz.func61 hL0 ?_;refine A11 ?_;refine r_know 6 (.int .i64 (s.length:Nat)) rfl (by rw[strU_size]) ?_;refine A3 ?_;refine Cd ?_ ?_<;>intro hb0
 ·exact absurd (of_decide_eq_true hb0) (by omega)
 ·refine A5 ?_;refine r_build [(0,_)] rfl rfl rfl (bd141_1) ?_;refine Bo [_,_,_,_,_,_,_,_] 8 (fun g=>[⟨some g,141,_,8,true⟩]) (fun g0=>?_);refine A4 ?_;refine at_regionM ?_;refine A1 ?_;refine Gm 1 [0] [] (fun _=>[PB g0 (p0 s).adv true]) (c_p_advance (p0 s) ⟨hs,Nat.zero_le _⟩ g0) (fun _=>?_);refine A10 ?_;refine at_end2 rfl (res_tmp rfl) (res_tmp rfl) (fun w hL=>⟨g0,rfl,hL⟩)
theorem c_ParseExpr_1{x:XT}(z:XR x)(hf:x.fit=true)(gx:Nat):ECall Tryz.prog 64 [XBr gx z,gB z.T false] [.pointer (some ⟨gx,0,none⟩)] Unit (fun _=> .int .i64 (chkE x:Nat)) (fun _=>[]):=by
 refine⟨by kernel_rfl,fun B w hD hL0=>?_⟩;refine cB1 4 Tryz.func64 hL0 ?_;refine A6 ?_;refine at_regionM ?_;refine Ld 0 0 [_,_,_,_,_,_,_] ti30 ?_;refine Kr 2 (z.v) ?_;refine Gm 0 [] [1] (fun _=>[_,_]) (c_CheckExpr z hf) (fun _=>?_);refine A4 ?_;refine E1 fun w hL=>⟨(),rfl,hL.pk []⟩
theorem c_p_end_x(p:Ps)(g:Nat){x:XT}(z:XR x)(hf:x.fit=true)(gx:Nat):ECall Tryz.prog 63 [PB g p true,XBr gx z,gB z.T false] [.pointer (some ⟨g,0,none⟩),.func (.func 64) #[] #[.pointer (some ⟨gx,0,none⟩)]] Unit (fun _=> .tuple #[.int .i64 (p.endA:Nat),.int .i64 (p.endE (chkE x):Nat)]) (fun _=>[PB g p.endP true]):=by
 refine⟨by kernel_rfl,fun B w hD hL0=>?_⟩;refine cB2 37 Tryz.func63 hL0 ?_;refine A15 ?_;refine Rs 11 ?_ ?_<;>intro hb0
 ·have hfl:p.fail=false:=by simpa using hb0
  refine A9 ?_;refine Cd ?_ ?_<;>intro hb1
  ·have hk0:p.k≠0:=by have hh:=hb1;simp only[bne_iff_ne,bne_eq_false_iff_eq,ne_eq] at hh;omega
   refine at_regionM ?_;refine A1 ?_;refine Gm 1 [0] [] (fun _=>[PB g (p.stop 15) true,_,_]) (c_p_stop p 15 g) (fun _=>?_);refine A11 ?_;refine Cd ?_ ?_<;>intro hb2
   ·have hf2:=hb2;refine A1 ?_;refine at_drawnI [2000000] mixed (by kernel_rfl) (by kernel_rfl) ?_;refine A16 ?_;refine at_end2 rfl (res_tmp rfl) (res_tmp rfl) (fun w hL=>by
 have hE:p.endP=p.stop 15:=(by unfold Ps.endP;rw[if_pos ⟨hfl,hk0⟩]);refine⟨(),?_,?_⟩
 ·unfold Ps.endA Ps.endE;rw[hE,if_pos hf2,if_pos hf2];try rfl
 ·rw[hE];exact hL.pk [some 0])
   ·have hf2:=hb2;refine A3 ?_;refine at_regionM ?_;refine A1 ?_;refine r_gfcallM (f:=64) (A:=[]) (C:=[XBr gx z,gB z.T false]) [] [.pointer (some ⟨gx,0,none⟩)] [] [1,2] (fun _=>[_,_,_]) rfl rfl rfl rfl rfl (c_ParseExpr_1 z hf gx) (by decide) rfl rfl ⟨⟨_,rfl,Blk.le_refl _⟩,⟨_,rfl,Blk.le_refl _⟩,trivial⟩ rfl rfl (fun _=>rfl) (fun _=>allOwn rfl) (fun _=>rfl) (fun _=>?_);refine A5 ?_;refine at_end2 rfl (res_tmp rfl) (res_tmp rfl) (fun w hL=>by
 have hE:p.endP=p.stop 15:=(by unfold Ps.endP;rw[if_pos ⟨hfl,hk0⟩]);refine⟨(),?_,?_⟩
 ·unfold Ps.endA Ps.endE;rw[hE,if_neg (by rw[hf2];simp),if_neg (by rw[hf2];simp)];try rfl
 ·rw[hE];exact hL.pk [some 0])
  ·have hk0:p.k=0:=by have hh:=hb1;simp only[bne_iff_ne,bne_eq_false_iff_eq,ne_eq] at hh;omega
   refine A11 ?_;refine Cd ?_ ?_<;>intro hb2
   ·have hf2:=hb2;refine A1 ?_;refine at_drawnI [2000000] mixed (by kernel_rfl) (by kernel_rfl) ?_;refine A16 ?_;refine at_end2 rfl (res_tmp rfl) (res_tmp rfl) (fun w hL=>by
 have hE:p.endP=p:=(by unfold Ps.endP;rw[if_neg (fun h=>h.2 hk0)]);refine⟨(),?_,?_⟩
 ·unfold Ps.endA Ps.endE;rw[hE,if_pos hf2,if_pos hf2];try rfl
 ·rw[hE];exact hL.pk [some 0])
   ·have hf2:=hb2;refine A3 ?_;refine at_regionM ?_;refine A1 ?_;refine r_gfcallM (f:=64) (A:=[]) (C:=[XBr gx z,gB z.T false]) [] [.pointer (some ⟨gx,0,none⟩)] [] [1,2] (fun _=>[_,_,_]) rfl rfl rfl rfl rfl (c_ParseExpr_1 z hf gx) (by decide) rfl rfl ⟨⟨_,rfl,Blk.le_refl _⟩,⟨_,rfl,Blk.le_refl _⟩,trivial⟩ rfl rfl (fun _=>rfl) (fun _=>allOwn rfl) (fun _=>rfl) (fun _=>?_);refine A5 ?_;refine at_end2 rfl (res_tmp rfl) (res_tmp rfl) (fun w hL=>by
 have hE:p.endP=p:=(by unfold Ps.endP;rw[if_neg (fun h=>h.2 hk0)]);refine⟨(),?_,?_⟩
 ·unfold Ps.endA Ps.endE;rw[hE,if_neg (by rw[hf2];simp),if_neg (by rw[hf2];simp)];try rfl
 ·rw[hE];exact hL.pk [some 0])
 ·have hfl:p.fail=true:=by simpa using hb0
  refine A21 ?_;refine Cd ?_ ?_<;>intro hb1
  ·have hf2:=hb1;refine A1 ?_;refine at_drawnI [2000000] mixed (by kernel_rfl) (by kernel_rfl) ?_;refine A16 ?_;refine at_end2 rfl (res_tmp rfl) (res_tmp rfl) (fun w hL=>by
 have hE:p.endP=p:=(by unfold Ps.endP;rw[if_neg (fun h=>by rw[hfl] at h;cases h.1)]);refine⟨(),?_,?_⟩
 ·unfold Ps.endA Ps.endE;rw[hE,if_pos hf2,if_pos hf2];try rfl
 ·rw[hE];exact hL.pk [some 0])
  ·have hf2:=hb1;refine A3 ?_;refine at_regionM ?_;refine A1 ?_;refine r_gfcallM (f:=64) (A:=[]) (C:=[XBr gx z,gB z.T false]) [] [.pointer (some ⟨gx,0,none⟩)] [] [1,2] (fun _=>[_,_,_]) rfl rfl rfl rfl rfl (c_ParseExpr_1 z hf gx) (by decide) rfl rfl ⟨⟨_,rfl,Blk.le_refl _⟩,⟨_,rfl,Blk.le_refl _⟩,trivial⟩ rfl rfl (fun _=>rfl) (fun _=>allOwn rfl) (fun _=>rfl) (fun _=>?_);refine A5 ?_;refine at_end2 rfl (res_tmp rfl) (res_tmp rfl) (fun w hL=>by
 have hE:p.endP=p:=(by unfold Ps.endP;rw[if_neg (fun h=>by rw[hfl] at h;cases h.1)]);refine⟨(),?_,?_⟩
 ·unfold Ps.endA Ps.endE;rw[hE,if_neg (by rw[hf2];simp),if_neg (by rw[hf2];simp)];try rfl
 ·rw[hE];exact hL.pk [some 0])
end Go.Proofs.YtfijbadahkmhbaaGreatDoor
namespace Go.Via
open Go Go.RowKit
noncomputable def peV(r:XT×Ps)(z:XR r.1):Value:= .tuple #[if r.2.endE (chkE r.1)=0 then z.v else XR.empty.v,.int .i64 ((if r.2.endE (chkE r.1)=0 then 0 else r.2.endA:Nat):Int),.int .i64 (r.2.endE (chkE r.1):Nat)]
theorem peV_no{r:XT×Ps}(z:XR r.1)(h:r.2.endE (chkE r.1)≠0):peV r z= .tuple #[XR.empty.v,.int .i64 (r.2.endA:Nat),.int .i64 (r.2.endE (chkE r.1):Nat)]:=by
 unfold peV
 simp only[if_neg h]
theorem peV_yes{r:XT×Ps}(z:XR r.1)(h:r.2.endE (chkE r.1)=0):peV r z= .tuple #[z.v,.int .i64 0,.int .i64 0]:=by
 unfold peV
 simp only[h,if_true]
 rfl
end Go.Via
namespace Go.Proofs.YtfijbadahkmhbaaGreatDoor
open Go Go.RowKit Go.Via
theorem c_ParseExpr_ok(s:Bs8)(hs:s.length≤4096)(f:Nat)(r:XT×Ps)(hr:lev f 1 (p0 s).adv=some r)(hf:r.1.fit=true):ECall Tryz.prog 31 [] [.string (strU s)] (XR r.1) (fun z=>peV r z) (fun z=>[gB z.T true]):=by
 refine⟨by kernel_rfl,fun B w hD hL0=>?_⟩;refine cB1 29 Tryz.func31 hL0 ?_;refine A2 ?_;refine r_alloc [_,_,_,_,_,_,_] 7 (fun g=>[⟨some g,30,_,7,true⟩]) rfl rfl z30 rfl rfl (fun _=>rfl) (fun g0=>?_);refine A5 ?_;refine at_regionM ?_;refine A1 ?_;refine Gm 0 [] [] (fun g=>[_,PB g (p0 s).adv true]) (c_start_ok s hs) (fun g=>?_);refine A14 ?_;refine Cd ?_ ?_<;>intro hb0
 ·exact absurd hb0 (by decide)
 ·refine A3 ?_;refine at_regionM ?_;refine A1 ?_;refine r_gcallM (A:=[PB g (p0 s).adv true]) (C:=[]) [.pointer (some ⟨g,0,none⟩),.int .i64 (1:Nat)] [1] [] (fun z=>[_,PB g r.2 true,gB z.T true]) rfl rfl rfl rfl (c_p_level f g 1 (p0 s).adv r (Ps.adv_good ⟨hs,Nat.zero_le _⟩) (by decide) (by decide) hr) (by decide) rfl rfl trivial rfl rfl (fun _=>rfl) (fun _=>allOwn rfl) (fun _=>rfl) (fun z=>?_);refine So 0 0 [⟨some g0,30,_,7,true⟩,_,_] [_,_,_,_,_,_,_] ?_;refine A3 ?_;refine at_regionM ?_;refine A2 ?_;refine r_gcallM (A:=[PB g r.2 true]) (C:=[XBr g0 z,gB z.T false]) [.pointer (some ⟨g,0,none⟩),.func (.func 64) #[] #[.pointer (some ⟨g0,0,none⟩)]] [1] [0,2] (fun _=>[_,PB g r.2.endP true,_]) rfl rfl rfl rfl (c_p_end_x r.2 g z hf g0) (by decide) rfl rfl ⟨⟨_,rfl,le_share⟩,⟨_,rfl,le_share⟩,trivial⟩ rfl rfl (fun _=>rfl) (fun _=>allOwn rfl) (fun _=>rfl) (fun _=>?_);refine A14 ?_;refine Cd ?_ ?_<;>intro hb1
  ·have hE:r.2.endE (chkE r.1)≠0:=by simpa using hb1
   refine A2 ?_;refine r_build [] rfl rfl rfl (bd30_0) ?_;refine A2 ?_;refine So 0 0 [⟨some g0,30,_,7,true⟩,_,_] [_,_,_,_,_,_,_] ?_;refine A6 ?_;refine at_end3 rfl (res_cell 0 rfl rfl ti30 (vs:=[_,_,_,_,_,_,_]) rfl rfl (Nat.le_of_ble_eq_true rfl) rfl) (res_tmp rfl) (res_tmp rfl) (fun w hL=>⟨z,by exact congrArg Ending.returned (peV_no z hE).symm,hL.pk [some 2]⟩)
  ·have hE:r.2.endE (chkE r.1)=0:=by simpa using hb1
   refine A4 ?_;refine Ld 0 0 [_,_,_,_,_,_,_] ti30 ?_;refine So 0 0 [⟨some g0,30,_,7,true⟩,_,_] [_,_,_,_,_,_,_] ?_;refine A5 ?_;refine at_end3 rfl (res_cell 0 rfl rfl ti30 (vs:=[_,_,_,_,_,_,_]) rfl rfl (Nat.le_of_ble_eq_true rfl) rfl) (res_tmp rfl) (res_tmp rfl) (fun w hL=>⟨z,by exact congrArg Ending.returned (peV_yes z hE).symm,hL.pk [some 2]⟩)
end Go.Proofs.YtfijbadahkmhbaaGreatDoor
namespace Go.Via
open Go Go.RowKit
def NumV.bytes:NumV→Nat
 | .q r=>(mag r.num.natAbs).size+(dm r).size
 | .raw _ s1 _ s2=>s1.size+s2.size
end Go.Via
