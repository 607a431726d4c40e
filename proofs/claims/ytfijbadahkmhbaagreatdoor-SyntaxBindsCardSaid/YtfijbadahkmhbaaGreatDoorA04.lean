/-
  Part 4 (chapter 43): lemmas, walks. Each theorem states its own conditions.
-/
import Derived.Shelf.Strings.Builder1
import Derived.Shelf.Strings.Builder2
import Derived.Shelf.Strings.OnBuilder
import Derived.Shelf.Strings.Trim
import Derived.Shelf.Small.Utf8
import Derived.Shelf.Small.Bits
import Derived.Shelf.Small.Strs
import Derived.Shelf.Small.Wraps
import Derived.Shelf.Strings.BuilderF
import Derived.Shelf.Strings.BuilderK
import Derived.Shelf.Utf8.RuneCount
import Derived.Shelf.Strings.Builder2Cap
import Derived.Shelf.Strconv.Itoa0
import Derived.Shelf.Strings.Search1
import Derived.Shelf.Strings.Search2
import Derived.Shelf.Strings.Search3
import Derived.Shelf.Strings.Cut
import Derived.Shelf.Strings.Count
import Derived.Shelf.LaysM
import Derived.Shelf.Strings.Shaped
import Derived.Shelf.Strings.Prefix
import Derived.Shelf.Strings.Split
import Derived.Shelf.Strings.Replace
import Derived.Shelf.Strings.SplitShaped
import Derived.Shelf.Unicode.Decode
import Derived.Shelf.Strings.Runes
import Derived.Shelf.Strings.RuneCount
import Derived.Shelf.Strings.AsciiSet
import Derived.Shelf.Bits.Mul64
import Derived.Shelf.Unicode.DecodeSlow
import Derived.Shelf.Unicode.DecodeAny
import Derived.Shelf.Strings.BuilderCap
import Derived.Shelf.Slices.Equal
import Derived.Shelf.Slices.CompactS
import Derived.Ground.Names2Prog
import Derived.Shelf.Slices.SearchI
import Derived.Shelf.Slices.Cells
import Derived.Shelf.Slices.Empties2
import Derived.Test.YtfijbadahkmhbaaGreatDoorProg
import Derived.Laws.Externs
import Derived.Lib.ItoaNum
import Derived.Test.YtfijbadahkmhbaaGreatDoorA01
import Derived.Test.YtfijbadahkmhbaaGreatDoorA02
import Derived.Test.YtfijbadahkmhbaaGreatDoorA03
set_option linter.unusedVariables false
set_option linter.unusedSimpArgs false
set_option maxRecDepth 20000
set_option maxHeartbeats 20000000
namespace Go.Via
open Go Go.RowKit
theorem perm_range(l:List Oper):(List.range l.length).map (fun i=>l.toArray.getD i default)=l:=by
 apply List.ext_getElem
 ·simp
 ·intro i h1 h2
  simp at h1
  simp[h1]
theorem at_drawnI{P:Program}{B:Bs}{s:St}{Q:Exit→Act→World→Prop}{id:Nat}{l:List Oper}(bl:List Nat)(hm:P.follows .mixedOrders=true)(hc:drawnOk bl l.toArray (List.range l.length)=true)(hf:freshB bl l.toArray s=true)
 (h:Run P bl l.toArray l s (fun s'=>At B s' (Q .normal))):At B s ((Code.region id l.toArray true).wp P Q):=at_drawn bl _ hm hc (perm_range l) hf h
def LdG(P:Program)(L:List Blk)(T g off:Nat)(k:Value→Prop):Prop:=∃(j:Nat) (b:Blk) (i:TI) (u v:Value),L[j]? =some b∧b.base=some g∧tiOK P T i=true∧(b.cs.drop off).take i.size=[u]∧i.size=1∧(bif i.agg then some (Value.agg #[u]) else some u)=some v∧k v
section
variable{P:Program}{bl:List Nat}{ops:Array Oper}{K:St→Prop}{rest:List Oper}{nt:Nat}{t:List (Nat×Value)}{L:List Blk}{d:Nat}{ty:TypeId}{pos:String}{af:Array Edge}{g:Option (Nat×Bool)}{x y:Operand}
theorem ld_a{T gg off:Nat}(hd:Nat.blt d nt=true)(hg:wantedS ops ⟨some d,.load T x,ty,pos,af,g⟩ t=some true)(hx:ev t x=some (.pointer (some ⟨gg,off,none⟩)))(h:LdG P (blank bl L) T gg off (fun v=>Run P bl ops rest ⟨nt,(d,v)::t,L⟩ K)):
 Run P bl ops (⟨some d,.load T x,ty,pos,af,g⟩::rest) ⟨nt,t,L⟩ K:=by
 obtain⟨j,b,i,u,v,h1,h2,h3,h4,h5,h6,h7⟩:=h
 exact r_load j off [u] hd hg h1 (by rw[hx];unfold Blk.at;rw[h2];rfl) h3 h4 h5.symm (by rw[h5];rfl) h6 h7
theorem ld_b{T gg off:Nat}{k:Value→Prop}{b:Blk}{i:TI}{u v:Value}(j:Nat)(h1:L[j]? =some b)(h2:b.base=some gg)(h3:tiOK P T i=true)(h4:(b.cs.drop off).take i.size=[u])(h5:i.size=1)(h6:(bif i.agg then some (Value.agg #[u]) else some u)=some v)(h7:k v):LdG P L T gg off k:=
 ⟨j,b,i,u,v,h1,h2,h3,h4,h5,h6,h7⟩
theorem fA{T:Nat}{j gg off fo fs:Nat}{i:TI}(hd:Nat.blt d nt=true)(hg:wantedS ops ⟨some d,.fieldAddr T x j,ty,pos,af,g⟩ t=some true)(hx:ev t x=some (.pointer (some ⟨gg,off,none⟩)))(hi:tiOK P T i=true)
 (hf:i.flds[j]? =some (fo,fs+1)){off':Nat}(ho:off+fo=off')(h:Run P bl ops rest ⟨nt,(d,.pointer (some ⟨gg,off',none⟩))::t,L⟩ K):
 Run P bl ops (⟨some d,.fieldAddr T x j,ty,pos,af,g⟩::rest) ⟨nt,t,L⟩ K:=by
 subst ho
 refine run_q hd hg rfl (v:= .pointer (some ⟨gg,off+fo,none⟩)) (fun B a w hr=>?_) h
 have h2:=hr.ev (x:=x) (v:= .pointer (some ⟨gg,off,none⟩)) hx
 obtain⟨fs',f,h3,h4,h5,h6⟩:=ti_fld hi hf
 simp only at h5 h6
 have hsz:(sizeOf f.type).run P w= .ok (fs+1) w:=by
  cases hq:P.info? f.type with
  |none=>rw[hq] at h6;simp at h6
  |some inf=>rw[hq] at h6;simp at h6;simp[sizeOf,typeInfo,hq,h6]
 simp[execOp,h2,Instr.fieldAt,run_underlying h3,h4,Instr.sureAddr,fieldPlace,hsz,add_lit,h5]
end
theorem A1{P Q:Prop}(q:Q)(h:Q→P:=by
 intro q
 first
  |with_reducible exact run_nil q
  |with_reducible exact at_tn q
  |with_reducible exact at_seq q
  |with_reducible exact at_region q
  |with_reducible exact at_ret q
  |with_reducible exact at_skip q
  |with_reducible exact at_block q
  |with_reducible exact at_exit q
  |with_reducible exact at_be q
  |with_reducible exact at_tr q
  |with_reducible exact at_te q
  |with_reducible exact at_bn q
  |with_reducible exact at_br q
  |(with_reducible refine at_condF ?_ q);rfl
  |(with_reducible refine at_condT ?_ q);rfl
  |exact r_move rfl rfl rfl q
  |exact r_assign rfl rfl rfl q
  |exact r_no rfl rfl rfl q
  |exact r_cmpInt rfl rfl rfl rfl rfl q
  |exact r_pickF rfl rfl rfl rfl q
  |exact r_pickT rfl rfl rfl rfl q
  |exact r_nilCheck rfl rfl rfl q
  |exact r_not rfl rfl rfl q
  |exact r_eqlStr rfl rfl rfl rfl q
  |exact r_neqStr rfl rfl rfl rfl q
  |(refine ld_a rfl rfl rfl ?_;first|exact ld_b 0 rfl rfl (tiA _) rfl rfl rfl q|exact ld_b 1 rfl rfl (tiA _) rfl rfl rfl q|exact ld_b 2 rfl rfl (tiA _) rfl rfl rfl q|exact ld_b 3 rfl rfl (tiA _) rfl rfl rfl q|exact ld_b 4 rfl rfl (tiA _) rfl rfl rfl q|exact ld_b 5 rfl rfl (tiA _) rfl rfl rfl q|exact ld_b 6 rfl rfl (tiA _) rfl rfl rfl q|exact ld_b 7 rfl rfl (tiA _) rfl rfl rfl q|exact ld_b 8 rfl rfl (tiA _) rfl rfl rfl q|exact ld_b 9 rfl rfl (tiA _) rfl rfl rfl q|exact ld_b 10 rfl rfl (tiA _) rfl rfl rfl q|exact ld_b 11 rfl rfl (tiA _) rfl rfl rfl q)
  |exact fA rfl rfl rfl (tiA _) rfl rfl q
  |exact r_makeFunc rfl rfl rfl q
  |exact r_extract (vs:=[_,_]) rfl rfl rfl rfl q
  |exact r_extract (vs:=[_,_,_]) rfl rfl rfl rfl q
  |exact r_extract (vs:=[_,_,_,_]) rfl rfl rfl rfl q
  |exact r_lenS (uA _) rfl rfl rfl q
  |exact r_lenV (uA _) rfl rfl rfl q
  |exact r_len rfl (uT _) rfl rfl q):P:=h q
theorem A2{P Q:Prop}(q:Q)(h:Q→P:=by intro q;refine A1 ?_;exact A1 q):P:=h q
theorem A3{P Q:Prop}(q:Q)(h:Q→P:=by intro q;refine A1 ?_;exact A2 q):P:=h q
theorem A4{P Q:Prop}(q:Q)(h:Q→P:=by intro q;refine A2 ?_;exact A2 q):P:=h q
theorem A5{P Q:Prop}(q:Q)(h:Q→P:=by intro q;refine A2 ?_;exact A3 q):P:=h q
theorem A6{P Q:Prop}(q:Q)(h:Q→P:=by intro q;refine A3 ?_;exact A3 q):P:=h q
theorem A7{P Q:Prop}(q:Q)(h:Q→P:=by intro q;refine A3 ?_;exact A4 q):P:=h q
theorem A8{P Q:Prop}(q:Q)(h:Q→P:=by intro q;refine A4 ?_;exact A4 q):P:=h q
theorem A9{P Q:Prop}(q:Q)(h:Q→P:=by intro q;refine A4 ?_;exact A5 q):P:=h q
theorem A10{P Q:Prop}(q:Q)(h:Q→P:=by intro q;refine A5 ?_;exact A5 q):P:=h q
theorem A11{P Q:Prop}(q:Q)(h:Q→P:=by intro q;refine A5 ?_;exact A6 q):P:=h q
theorem A12{P Q:Prop}(q:Q)(h:Q→P:=by intro q;refine A6 ?_;exact A6 q):P:=h q
theorem A13{P Q:Prop}(q:Q)(h:Q→P:=by intro q;refine A6 ?_;exact A7 q):P:=h q
theorem A14{P Q:Prop}(q:Q)(h:Q→P:=by intro q;refine A7 ?_;exact A7 q):P:=h q
theorem A15{P Q:Prop}(q:Q)(h:Q→P:=by intro q;refine A7 ?_;exact A8 q):P:=h q
theorem A16{P Q:Prop}(q:Q)(h:Q→P:=by intro q;refine A8 ?_;exact A8 q):P:=h q
theorem A17{P Q:Prop}(q:Q)(h:Q→P:=by intro q;refine A8 ?_;exact A9 q):P:=h q
theorem A18{P Q:Prop}(q:Q)(h:Q→P:=by intro q;refine A9 ?_;exact A9 q):P:=h q
theorem A19{P Q:Prop}(q:Q)(h:Q→P:=by intro q;refine A9 ?_;exact A10 q):P:=h q
theorem A20{P Q:Prop}(q:Q)(h:Q→P:=by intro q;refine A10 ?_;exact A10 q):P:=h q
theorem A21{P Q:Prop}(q:Q)(h:Q→P:=by intro q;refine A10 ?_;exact A11 q):P:=h q
theorem A23{P Q:Prop}(q:Q)(h:Q→P:=by intro q;refine A11 ?_;exact A12 q):P:=h q
theorem A24{P Q:Prop}(q:Q)(h:Q→P:=by intro q;refine A12 ?_;exact A12 q):P:=h q
theorem A25{P Q:Prop}(q:Q)(h:Q→P:=by intro q;refine A12 ?_;exact A13 q):P:=h q
theorem A26{P Q:Prop}(q:Q)(h:Q→P:=by intro q;refine A13 ?_;exact A13 q):P:=h q
theorem A27{P Q:Prop}(q:Q)(h:Q→P:=by intro q;refine A13 ?_;exact A14 q):P:=h q
theorem A28{P Q:Prop}(q:Q)(h:Q→P:=by intro q;refine A14 ?_;exact A14 q):P:=h q
theorem A29{P Q:Prop}(q:Q)(h:Q→P:=by intro q;refine A14 ?_;exact A15 q):P:=h q
theorem A30{P Q:Prop}(q:Q)(h:Q→P:=by intro q;refine A15 ?_;exact A15 q):P:=h q
theorem A32{P Q:Prop}(q:Q)(h:Q→P:=by intro q;refine A16 ?_;exact A16 q):P:=h q
theorem A37{P Q:Prop}(q:Q)(h:Q→P:=by intro q;refine A18 ?_;exact A19 q):P:=h q
theorem A40{P Q:Prop}(q:Q)(h:Q→P:=by intro q;refine A20 ?_;exact A20 q):P:=h q
section
variable{P:Program}{bl:List Nat}{ops:Array Oper}{K:St→Prop}{rest:List Oper}{nt:Nat}{t:List (Nat×Value)}{L:List Blk}{d:Nat}{ty:TypeId}{pos:String}{af:Array Edge}{g:Option (Nat×Bool)}{x y:Operand}
theorem Ar{op:BinOp}{T U:Nat}{k:IntKind}{m n:Int}(r:Int)(h:Run P bl ops rest ⟨nt,(d,.int k r)::t,L⟩ K)(hd:Nat.blt d nt=true:=by rfl)(hg:wantedS ops ⟨some d,.binOp op T x y U,ty,pos,af,g⟩ t=some true:=by rfl)(hx:ev t x=some (.int k m):=by rfl)(hy:ev t y=some (.int k n):=by rfl)
 (hr:(match op with| .add=>some (k.wrap (m+n))| .sub=>some (k.wrap (m-n))| .mul=>some (k.wrap (m*n))|_=>none)=some r:=by first|exact congrArg some (wi (by omega) (by omega) (by omega))|exact congrArg some (c64 _ rfl (by omega))):
 Run P bl ops (⟨some d,.binOp op T x y U,ty,pos,af,g⟩::rest) ⟨nt,t,L⟩ K:=r_arith hd hg hx hy hr h
theorem Ix{T e:Nat}{k:IntKind}{i:Int}{b:Blk}{off len cap:Nat}{inf:TI}(kk off':Nat)(h:Run P bl ops rest ⟨nt,(d,b.at off')::t,L⟩ K)(hT:P.underlying T=some (.slice e):=by exact uA _)(hinf:tiOK P e inf=true:=by exact tiA _)(hd:Nat.blt d nt=true:=by rfl)(hg:wantedS ops ⟨some d,.indexAddr T x y,ty,pos,af,g⟩ t=some true:=by rfl)
 (hk:(blank bl L)[kk]? =some b:=by rfl)(hx:ev t x=some (slv b.base off len cap):=by rfl)(hy:ev t y=some (.int k i):=by rfl)(h0:0≤i:=by omega)(h1:i<len:=by omega)
 (hb:b.cs≠[]:=by first|exact List.cons_ne_nil _ _|exact NV_ne (by rw[row_length];omega)|exact NV_ne (by omega)|exact tabC_ne (by decide)|exact SB_ne (by omega)|exact frmC_ne (by decide)|exact(fun e=>by have h8:=hR.1;have h9:=congrArg List.length e;rw[NB_length] at h9;simp only[List.length_nil] at h9;first|omega|(rw[List.length_set] at h9;omega))|exact(fun e=>by have h9:=congrArg List.length e;rw[NB_length] at h9;simp only[List.length_nil] at h9;first|omega|(rw[List.length_set] at h9;omega)))
 (ho:off+i.toNat*inf.size=off':=by first|(show 0+Int.toNat _*1=_;omega)|(show 0+Int.toNat _*3=_;omega)|(show 0+Int.toNat _*4=_;omega)|(show 0+Int.toNat _*2=_;omega)|(show 0+Int.toNat _*7=_;omega)):Run P bl ops (⟨some d,.indexAddr T x y,ty,pos,af,g⟩::rest) ⟨nt,t,L⟩ K:=
 r_indexAddr kk off' hT hinf hd hg hk hx hy h0 h1 hb ho h
theorem Gm{f:Nat}{args:List Operand}{ts:Array TypeId}{dst:Option Nat}{vs:List Value}{AC:List Blk}{X:Type}{res:X→Value}{L1:X→List Blk}(n:Nat)(ks is:List Nat)(mk:X→List Blk)(hc:ECall P f AC vs X res L1)
 (h:∀x,Run P bl ops rest (({nt:=nt,t:=t,L:=mk x}:St).put dst (res x)) K)
 (hM:isM bl=true:=by rfl)(hd:(match(generalizing:=false) dst with|some d=>Nat.blt d nt|none=>true)=true:=by rfl)
 (hg:wantedS ops ⟨dst,.call {callee:= .value (.func f),args:=args.toArray,argTypes:=ts},ty,pos,af,g⟩ t=some true:=by rfl)
 (hv:args.map (ev t)=vs.map some:=by rfl)(hn:ks.Nodup:=by decide)(hk:ks.map (fun k=>L[k]?)=(AC.take n).map some:=by rfl)(hA:((AC.take n).all fun b=>b.own&&(Nat.blt b.e mapMark||b.base.isSome))=true:=by rfl)
 (hp:Picks L (is.map some) (AC.drop n):=by repeat (first|exact trivial|refine⟨⟨_,rfl,Blk.le_refl _⟩,?_⟩))
 (hC:((AC.drop n).all fun b=> !b.own)=true:=by rfl)(hap:apartB ((ks++is).map some) (AC.map (·.own))=true:=by rfl)
 (hlen:∀x,Nat.ble ks.length (L1 x).length=true:=by exact(fun _=>rfl))(hown:∀x,∀b∈L1 x,b.own=true∨∃a∈AC.take n,a.base=b.base∧b.base.isSome=true:=by exact(fun _=>allOwn rfl))(hL:∀x,setG L ks (L1 x)=mk x:=by exact(fun _=>rfl)):
 Run P bl ops (⟨dst,.call {callee:= .value (.func f),args:=args.toArray,argTypes:=ts},ty,pos,af,g⟩::rest) ⟨nt,t,L⟩ K:=
 r_gcallM vs (A:=AC.take n) (C:=AC.drop n) ks is mk hM hd hg hv (by rw[List.take_append_drop];exact hc) hn hk hA hp hC (by rw[List.take_append_drop];exact hap) hlen hown hL h
theorem Pc{f:Nat}{args:List Operand}{ts:Array TypeId}{vs:List Value}{v:Value}(hc:PCall P f vs.toArray v)(h:Run P bl ops rest ⟨nt,(d,v)::t,L⟩ K)(hd:Nat.blt d nt=true:=by rfl)(hg:wantedS ops ⟨some d,.call {callee:= .value (.func f),args:=args.toArray,argTypes:=ts},ty,pos,af,g⟩ t=some true:=by rfl)
 (hv:args.map (ev t)=vs.map some:=by rfl):
 Run P bl ops (⟨some d,.call {callee:= .value (.func f),args:=args.toArray,argTypes:=ts},ty,pos,af,g⟩::rest) ⟨nt,t,L⟩ K:=r_pcall vs hd hg hv hc h
theorem So{T:Nat}{i:TI}{gg e n:Nat}{cs:List Value}{v:Value}(k off:Nat)(L':List Blk)(cs':List Value)(h:Run P bl ops rest ⟨nt,t,L'⟩ K)(hbl:blS bl=false:=by rfl)(hg:wantedS ops ⟨none,.store T x y,ty,pos,af,g⟩ t=some true:=by rfl)(hk:L[k]? =some ⟨some gg,e,cs,n,true⟩:=by rfl)(hx:ev t x=some (.pointer (some ⟨gg,off,none⟩)):=by rfl)
 (hy:ev t y=some v:=by rfl)(hi:tiOK P T i=true:=by exact tiA _)(hsz:v.cells.size=i.size:=by rfl)(hfit:Nat.ble (off+i.size) cs.length=true:=by rfl)(h1:(v.cells.toList.all fun u=>u.oneCell')=true:=by rfl)(hcs:cs.take off++v.cells.toList++cs.drop (off+i.size)=cs':=by rfl)(hL:L.set k ⟨some gg,e,cs',n,true⟩=L':=by rfl)
 (hpos:Nat.blt 0 i.size=true:=by rfl):Run P bl ops (⟨none,.store T x y,ty,pos,af,g⟩::rest) ⟨nt,t,L⟩ K:=r_store hbl k off L' cs' hg hk hx hy hi hsz hfit h1 hcs hL h hpos
theorem Bo{T:Nat}{v:Value}(cs:List Value)(n:Nat)(mk:Nat→List Blk)(h:∀b,Run P bl ops rest ⟨nt,(d,.pointer (some ⟨b,0,none⟩))::t,mk b⟩ K)(hd:Nat.blt d nt=true:=by rfl)(hg:wantedS ops ⟨some d,.box T x,ty,pos,af,g⟩ t=some true:=by rfl)(hx:ev t x=some v:=by rfl)(hcs:v.cells.toList=cs:=by rfl)(hn:v.cells.size=n:=by rfl)
 (hL:∀b,L++[⟨some b,T,cs,n,true⟩]=mk b:=by exact(fun _=>rfl))(hT:Nat.blt T mapMark=true:=by rfl):Run P bl ops (⟨some d,.box T x,ty,pos,af,g⟩::rest) ⟨nt,t,L⟩ K:=r_box cs n mk hd hg hx hcs hn hL h hT
theorem Tn1{n:Nat}{listed:Array Bool}{s:St}{K:St→Prop}{o:Oper}(i:Nat)(h:Run P [1000000] ops [o] s (fun s'=>Tree P ops K n (listed.setIfInBounds i true) s'))(h1:Region.ready .any ops listed=[i]:=by kernel_rfl)(ho:ops[i]? =some o:=by rfl):Tree P ops K (n+1) listed s:=
 t_node [i] h1 rfl ⟨⟨_,ho,h⟩,trivial⟩
theorem Tn2{n:Nat}{listed:Array Bool}{s:St}{K:St→Prop}{o o':Oper}(i j:Nat)(h:Run P [1000000] ops [o] s (fun s'=>Tree P ops K n (listed.setIfInBounds i true) s'))(h':Run P [1000000] ops [o'] s (fun s'=>Tree P ops K n (listed.setIfInBounds j true) s'))
 (h1:Region.ready .any ops listed=[i,j]:=by kernel_rfl)(ho:ops[i]? =some o:=by rfl)(ho':ops[j]? =some o':=by rfl):Tree P ops K (n+1) listed s:=
 t_node [i,j] h1 rfl ⟨⟨_,ho,h⟩,⟨_,ho',h'⟩,trivial⟩
theorem Tn3{n:Nat}{listed:Array Bool}{s:St}{K:St→Prop}{o o' u:Oper}(i j k:Nat)(h:Run P [1000000] ops [o] s (fun s'=>Tree P ops K n (listed.setIfInBounds i true) s'))(h':Run P [1000000] ops [o'] s (fun s'=>Tree P ops K n (listed.setIfInBounds j true) s'))(hu:Run P [1000000] ops [u] s (fun s'=>Tree P ops K n (listed.setIfInBounds k true) s'))
 (h1:Region.ready .any ops listed=[i,j,k]:=by kernel_rfl)(ho:ops[i]? =some o:=by rfl)(ho':ops[j]? =some o':=by rfl)(ho2:ops[k]? =some u:=by rfl):Tree P ops K (n+1) listed s:=
 t_node [i,j,k] h1 rfl ⟨⟨_,ho,h⟩,⟨_,ho',h'⟩,⟨_,ho2,hu⟩,trivial⟩
end
section
variable{P:Program}{B:Bs}{Q:Exit→Act→World→Prop}{nt:Nat}{t:List (Nat×Value)}{L:List Blk}{ι:Type}{c:Code}
abbrev SL:=List (Nat×Value)×List Blk×Nat
theorem weak_pk{L L':List Blk}(ks:List (Option Nat))(hp:Picks L ks L':=by repeat (first|exact trivial|refine⟨⟨_,rfl,Blk.le_refl _⟩,?_⟩))(hl:ks.length=L'.length:=by rfl)(ha:apartB ks (L'.map (·.own))=true:=by rfl):Weak L L':=weak_picks ks hp hl ha
theorem LRel.pk{B:Bs}{w:World}{L L':List Blk}(h:LRel B L w)(ks:List (Option Nat))(hp:Picks L ks L':=by repeat (first|exact trivial|refine⟨⟨_,rfl,Blk.le_refl _⟩,?_⟩))(hl:ks.length=L'.length:=by rfl)(ha:apartB ks (L'.map (·.own))=true:=by rfl):LRel B L' w:=h.picks ks hp hl ha
theorem Weak.auto{L L':List Blk}(h:Weak L L':=by
 first
  |exact weak_picks [some 0] ⟨⟨_,rfl,Blk.le_refl _⟩,trivial⟩ rfl rfl
  |exact weak_picks [some 0,some 1] ⟨⟨_,rfl,Blk.le_refl _⟩,⟨_,rfl,Blk.le_refl _⟩,trivial⟩ rfl rfl
  |exact weak_picks [some 0,some 1,some 2] ⟨⟨_,rfl,Blk.le_refl _⟩,⟨_,rfl,Blk.le_refl _⟩,⟨_,rfl,Blk.le_refl _⟩,trivial⟩ rfl rfl
  |exact weak_picks [some 0,some 1,some 2,some 3] ⟨⟨_,rfl,Blk.le_refl _⟩,⟨_,rfl,Blk.le_refl _⟩,⟨_,rfl,Blk.le_refl _⟩,⟨_,rfl,Blk.le_refl _⟩,trivial⟩ rfl rfl
  |exact weak_picks [some 0,some 1,some 2,some 3,some 4] ⟨⟨_,rfl,Blk.le_refl _⟩,⟨_,rfl,Blk.le_refl _⟩,⟨_,rfl,Blk.le_refl _⟩,⟨_,rfl,Blk.le_refl _⟩,⟨_,rfl,Blk.le_refl _⟩,trivial⟩ rfl rfl
  |exact weak_picks [some 0,some 1,some 2,some 3,some 4,some 5] ⟨⟨_,rfl,Blk.le_refl _⟩,⟨_,rfl,Blk.le_refl _⟩,⟨_,rfl,Blk.le_refl _⟩,⟨_,rfl,Blk.le_refl _⟩,⟨_,rfl,Blk.le_refl _⟩,⟨_,rfl,Blk.le_refl _⟩,trivial⟩ rfl rfl
  |exact weak_picks [some 0,some 1,some 2,some 3,some 4,some 5,some 6] ⟨⟨_,rfl,Blk.le_refl _⟩,⟨_,rfl,Blk.le_refl _⟩,⟨_,rfl,Blk.le_refl _⟩,⟨_,rfl,Blk.le_refl _⟩,⟨_,rfl,Blk.le_refl _⟩,⟨_,rfl,Blk.le_refl _⟩,⟨_,rfl,Blk.le_refl _⟩,trivial⟩ rfl rfl
  |exact weak_picks [some 0,some 1,some 2,some 3,some 4,some 5,some 6,some 7] ⟨⟨_,rfl,Blk.le_refl _⟩,⟨_,rfl,Blk.le_refl _⟩,⟨_,rfl,Blk.le_refl _⟩,⟨_,rfl,Blk.le_refl _⟩,⟨_,rfl,Blk.le_refl _⟩,⟨_,rfl,Blk.le_refl _⟩,⟨_,rfl,Blk.le_refl _⟩,⟨_,rfl,Blk.le_refl _⟩,trivial⟩ rfl rfl
  |exact weak_picks [some 0,some 1,some 2,some 3,some 4,some 5,some 6,some 7,some 8] ⟨⟨_,rfl,Blk.le_refl _⟩,⟨_,rfl,Blk.le_refl _⟩,⟨_,rfl,Blk.le_refl _⟩,⟨_,rfl,Blk.le_refl _⟩,⟨_,rfl,Blk.le_refl _⟩,⟨_,rfl,Blk.le_refl _⟩,⟨_,rfl,Blk.le_refl _⟩,⟨_,rfl,Blk.le_refl _⟩,⟨_,rfl,Blk.le_refl _⟩,trivial⟩ rfl rfl):Weak L L':=h
theorem El(S:ι→SL)(i₀:ι)(round:∀i,At B ⟨nt,(S i).1,(S i).2.1⟩ (c.wp P (Exit.then (Nxt B nt (fun i=>(S i).1) (fun i=>(S i).2.1) (fun i=>(S i).2.2) i) Q)))
 (ht:LookAll t (S i₀).1:=by repeat (first|exact trivial|refine⟨rfl,?_⟩))(hL:Weak L (S i₀).2.1:=by exact Weak.refl _):At B ⟨nt,t,L⟩ ((Code.loop c).wp P Q):=enterL _ _ _ i₀ ht hL round
theorem Nl{T:ι→List (Nat×Value)}{LL:ι→List Blk}{μ:ι→Nat}{i:ι}(j:ι)(hμ:μ j<μ i:=by first|(simp only[];omega)|(dsimp only;omega))
 (ht:LookAll t (T j):=by repeat (first|exact trivial|refine⟨rfl,?_⟩))(hL:Weak L (LL j):=by exact Weak.refl _):At B ⟨nt,t,L⟩ (Nxt B nt T LL μ i):=nextL j hμ ht hL
end
section
variable{P:Program}{f:Nat}{fn:Func}{c:Code}{B:Bs}{w:World}{R:Ending→World→Prop}{L:List Blk}
theorem cB0(nt:Nat)(hf:P.funcs[f]? =some fn)(hL:LRel B L w)(h:At B ⟨nt,[],L⟩ (c.wp P (bodyPost P fn R)))(hb:fn.body=some c:=by rfl)(hnt:fn.ntmps=nt:=by rfl)(hn:Nat.ble 0 fn.ntmps=true:=by rfl)(hD:B.D=[]:=by first|rfl|assumption):Calls P f #[] w R:=
 calls_atB (args:=[]) hf hb (Nat.le_of_ble_eq_true hn) hL (by subst hnt;exact h) hD
theorem cB1{v0:Value}(nt:Nat)(hf:P.funcs[f]? =some fn)(hL:LRel B L w)(h:At B ⟨nt,[(0,v0)],L⟩ (c.wp P (bodyPost P fn R)))(hb:fn.body=some c:=by rfl)(hnt:fn.ntmps=nt:=by rfl)(hn:Nat.ble 1 fn.ntmps=true:=by rfl)(hD:B.D=[]:=by first|rfl|assumption):Calls P f #[v0] w R:=
 calls_atB (args:=[v0]) hf hb (Nat.le_of_ble_eq_true hn) hL (by subst hnt;exact h) hD
theorem cB2{v0 v1:Value}(nt:Nat)(hf:P.funcs[f]? =some fn)(hL:LRel B L w)(h:At B ⟨nt,[(0,v0),(1,v1)],L⟩ (c.wp P (bodyPost P fn R)))(hb:fn.body=some c:=by rfl)(hnt:fn.ntmps=nt:=by rfl)(hn:Nat.ble 2 fn.ntmps=true:=by rfl)(hD:B.D=[]:=by first|rfl|assumption):Calls P f #[v0,v1] w R:=
 calls_atB (args:=[v0,v1]) hf hb (Nat.le_of_ble_eq_true hn) hL (by subst hnt;exact h) hD
theorem cB3{v0 v1 v2:Value}(nt:Nat)(hf:P.funcs[f]? =some fn)(hL:LRel B L w)(h:At B ⟨nt,[(0,v0),(1,v1),(2,v2)],L⟩ (c.wp P (bodyPost P fn R)))(hb:fn.body=some c:=by rfl)(hnt:fn.ntmps=nt:=by rfl)(hn:Nat.ble 3 fn.ntmps=true:=by rfl)(hD:B.D=[]:=by first|rfl|assumption):Calls P f #[v0,v1,v2] w R:=
 calls_atB (args:=[v0,v1,v2]) hf hb (Nat.le_of_ble_eq_true hn) hL (by subst hnt;exact h) hD
theorem cB4{v0 v1 v2 v3:Value}(nt:Nat)(hf:P.funcs[f]? =some fn)(hL:LRel B L w)(h:At B ⟨nt,[(0,v0),(1,v1),(2,v2),(3,v3)],L⟩ (c.wp P (bodyPost P fn R)))(hb:fn.body=some c:=by rfl)(hnt:fn.ntmps=nt:=by rfl)(hn:Nat.ble 4 fn.ntmps=true:=by rfl)(hD:B.D=[]:=by first|rfl|assumption):Calls P f #[v0,v1,v2,v3] w R:=
 calls_atB (args:=[v0,v1,v2,v3]) hf hb (Nat.le_of_ble_eq_true hn) hL (by subst hnt;exact h) hD
end
section
variable{P:Program}{bl:List Nat}{ops:Array Oper}{nt:Nat}{t:List (Nat×Value)}{L:List Blk}{B:Bs}{rest:List Oper}{K:St→Prop}{ty:TypeId}{pos:String}{af:Array Edge}{g:Option (Nat×Bool)}{d:Nat}
theorem Cd{s:St}{Q:Exit→Act→World→Prop}{c:Operand}{x y:Code}{b:Bool}(h1:b=true→At B s (x.wp P Q))(h2:b=false→At B s (y.wp P Q))(hc:ev s.t c=some (.bool b):=by rfl):At B s ((Code.cond c x y).wp P Q):=at_cond hc h1 h2
theorem Rs{X:Act→World→Prop}{l:List Oper}{b:Bool}(d:Nat)(hT:b=true→Run P bl ops l ⟨nt,(d,.bool true)::t,L⟩ (fun s'=>At B s' X))(hF:b=false→Run P bl ops l ⟨nt,(d,.bool false)::t,L⟩ (fun s'=>At B s' X))
 (hx:look t d=some (.bool b):=by rfl):Run P bl ops l ⟨nt,t,L⟩ (fun s'=>At B s' X):=r_split d hx hT hF
theorem Ld{T:Nat}{x:Operand}{i:TI}{b:Blk}{v:Value}(k off:Nat)(vs:List Value)(hi:tiOK P T i=true)(h:Run P bl ops rest ⟨nt,(d,v)::t,L⟩ K)
 (hd:Nat.blt d nt=true:=by rfl)(hg:wantedS ops ⟨some d,.load T x,ty,pos,af,g⟩ t=some true:=by rfl)(hk:(blank bl L)[k]? =some b:=by rfl)(hx:ev t x=some (b.at off):=by rfl)
 (hvs:(b.cs.drop off).take i.size=vs:=by rfl)(hlen:vs.length=i.size:=by rfl)(hpos:Nat.blt 0 i.size=true:=by rfl)(hv:(bif i.agg then some (.agg vs.toArray) else vs[0]?)=some v:=by rfl):
 Run P bl ops (⟨some d,.load T x,ty,pos,af,g⟩::rest) ⟨nt,t,L⟩ K:=r_load k off vs hd hg hk hx hi hvs hlen hpos hv h
theorem Kr{X:Act→World→Prop}{l:List Oper}{v:Value}(d:Nat)(v':Value)(h:Run P bl ops l ⟨nt,(d,v')::t,L⟩ (fun s'=>At B s' X))(hx:look t d=some v:=by rfl)(hv:v=v':=by rfl):Run P bl ops l ⟨nt,t,L⟩ (fun s'=>At B s' X):=r_know d v' hx hv h
theorem E1{fn:Func}{R:Ending→World→Prop}{s:St}{d:Nat}{v:Value}(hR:∀w,LRel B s.L w→R (.returned v) w)(hfn:fn.results= #[.tmp d]:=by rfl)(h:look s.t d=some v:=by rfl)(hD:B.D=[]:=by first|rfl|assumption):At B s (bodyPost P fn R .ret):=
 at_end1 hfn (res_tmp h) hR hD
theorem Kp{X:Act→World→Prop}{l:List Oper}{a c:Int}(d:Nat)(h1:a=c)(h:Run P bl ops l ⟨nt,(d,.int .i64 c)::t,L⟩ (fun s'=>At B s' X))(hx:look t d=some (.int .i64 a):=by rfl):Run P bl ops l ⟨nt,t,L⟩ (fun s'=>At B s' X):=r_know d _ hx (by rw[h1]) h
theorem Td1{n:Nat}{ops:Array Oper}{listed:Array Bool}{s:St}{K:St→Prop}{o:Oper}(i:Nat)(h:Run P [1000000] ops [o] s (fun s'=>Tree P ops K n (listed.setIfInBounds i true) s'))(h1:Region.ready .any ops listed=[i]:=by decide+kernel)(ho:ops[i]? =some o:=by rfl):Tree P ops K (n+1) listed s:=Tn1 i h h1 ho
theorem Td2{n:Nat}{ops:Array Oper}{listed:Array Bool}{s:St}{K:St→Prop}{o o':Oper}(i j:Nat)(h:Run P [1000000] ops [o] s (fun s'=>Tree P ops K n (listed.setIfInBounds i true) s'))(h':Run P [1000000] ops [o'] s (fun s'=>Tree P ops K n (listed.setIfInBounds j true) s'))
 (h1:Region.ready .any ops listed=[i,j]:=by decide+kernel)(ho:ops[i]? =some o:=by rfl)(ho':ops[j]? =some o':=by rfl):Tree P ops K (n+1) listed s:=Tn2 i j h h' h1 ho ho'
theorem eI{a b:Nat}(h:a=b):Ending.returned (.int .i64 (a:Int))=Ending.returned (.int .i64 (b:Int)):=by rw[h]
theorem eB{a b:Bool}(h:a=b):Ending.returned (.bool a)=Ending.returned (.bool b):=by rw[h]
end
end Go.Via
namespace Go.Proofs.YtfijbadahkmhbaaGreatDoor
open Go Go.RowKit Go.Via
def tiL:List (Nat×TI):=((3,⟨false,1,[]⟩)::(4,⟨false,1,[]⟩)::(5,⟨false,1,[]⟩)::(9,⟨false,1,[]⟩)::(25,⟨true,2,[(0,1),(1,1)]⟩)::(27,⟨true,4,[(0,2),(2,2)]⟩)::(28,⟨false,1,[]⟩)::(30,⟨true,7,[(0,1),(1,1),(2,4),(6,1)]⟩)::(32,⟨false,1,[]⟩)::(36,⟨false,1,[]⟩)::(39,⟨true,9,[(0,1),(1,1),(2,7)]⟩)::(70,⟨false,1,[]⟩)::(73,⟨true,1,[(0,1)]⟩)::(79,⟨true,4,[]⟩)::(92,⟨true,3,[(0,1),(1,1),(2,1)]⟩)::(94,⟨true,4,[(0,1),(1,1),(2,1),(3,1)]⟩)::(110,⟨true,3,[(0,1),(1,1),(2,1)]⟩)::(114,⟨true,3,[(0,1),(1,1),(2,1)]⟩)::(124,⟨false,1,[]⟩)::(125,⟨false,1,[]⟩)::(127,⟨true,2,[(0,1),(1,1)]⟩)::(137,⟨true,3,[(0,1),(1,1),(2,1)]⟩)::(139,⟨true,2,[(0,1),(1,1)]⟩)::(141,⟨true,8,[(0,1),(1,1),(2,3),(5,2),(7,1)]⟩)::(161,⟨false,1,[]⟩)::(189,⟨false,1,[]⟩)::(201,⟨true,8,[]⟩)::(222,⟨true,256,[]⟩)::(229,⟨true,2,[(0,1),(1,1)]⟩)::(230,⟨true,32,[]⟩)::[])
def tiOf(T:Nat):TI:=(tiL.lookup T).getD ⟨false,0,[]⟩
theorem tiK:tiL.all (fun p=>tiOK Tryz.prog p.1 p.2)=true:=by kernel_rfl
theorem lookup_mem{α:Type}:∀{l:List (Nat×α)} {k:Nat} {v:α},l.lookup k=some v→(k,v)∈l
 |(a,b)::l,k,v,h=>by
  rw[List.lookup_cons] at h
  split at h
  ·rename_i e;cases h;rw[eq_of_beq e];exact List.mem_cons_self
  ·exact List.mem_cons_of_mem _ (lookup_mem h)
theorem allL{α:Type}{p:Nat→α→Bool}{l:List (Nat×α)}{k:Nat}{v:α}(h:l.all (fun x=>p x.1 x.2)=true)(hv:l.lookup k=some v):p k v=true:=List.all_eq_true.1 h _ (lookup_mem hv)
def slB(o:Option TypeDesc)(e:Nat):Bool:=match o with
 |some (.slice e')=>e'==e
 |_=>false
theorem slB_eq{o:Option TypeDesc}{e:Nat}(h:slB o e=true):o=some (.slice e):=by
 unfold slB at h
 split at h
 ·rw[eq_of_beq h]
 ·cases h
def stB(o:Option TypeDesc):Bool:=match o with
 |some .string=>true
 |_=>false
theorem stB_eq{o:Option TypeDesc}(h:stB o=true):o=some .string:=by
 unfold stB at h
 split at h
 ·rfl
 ·cases h
theorem tiA(T:Nat)(h:(tiL.lookup T).isSome=true:=by rfl):tiOK Tryz.prog T (tiOf T)=true:=by
 obtain⟨v,hv⟩:=Option.isSome_iff_exists.1 h
 unfold tiOf;rw[hv,Option.getD_some]
 exact allL (p:=fun a b=>tiOK Tryz.prog a b) tiK hv
def elL:List (Nat×Nat):=((28,30)::(36,9)::(50,92)::(57,3)::(107,110)::(111,114)::(115,94)::(125,5)::(174,161)::[])
def elOf(T:Nat):Nat:=(elL.lookup T).getD 0
theorem elK:elL.all (fun p=>slB (Tryz.prog.underlying p.1) p.2)=true:=by kernel_rfl
theorem uA(T:Nat)(h:(elL.lookup T).isSome=true:=by rfl):Tryz.prog.underlying T=some (.slice (elOf T)):=by
 obtain⟨v,hv⟩:=Option.isSome_iff_exists.1 h
 unfold elOf;rw[hv]
 have:=allL (p:=fun a b=>slB (Tryz.prog.underlying a) b) elK hv
 rw[Option.getD_some]
 exact slB_eq this
def stL:List Nat:=(9::[])
theorem stK:stL.all (fun T=>stB (Tryz.prog.underlying T))=true:=by kernel_rfl
theorem uT(T:Nat)(h:stL.contains T=true:=by rfl):Tryz.prog.underlying T=some .string:=by
 exact stB_eq (List.all_eq_true.1 stK T (List.contains_iff_mem.1 h))
end Go.Proofs.YtfijbadahkmhbaaGreatDoor
namespace Go.Via
open Go
theorem made_T(n:Nat):Value.agg #[.bool (mag n !=⟨#[]⟩),.string (mag n)]=I (-(n:Int)):=by
 unfold I
 rw[bne_empty]
 congr 4
 ·rw[Bool.eq_iff_iff];simp;omega
 ·simp
theorem made_F(n:Nat):Value.agg #[.bool false,.string (mag n)]=I (n:Int):=by
 unfold I
 congr 4
theorem negate_val(z:Int):(if(!decide (z<0))=true then-(z.natAbs:Int) else(z.natAbs:Int))= -z:=by
 by_cases h:z<0<;>simp[h]<;>omega
theorem add_same(a b:Int)(h:(decide (a<0)==decide (b<0))=true):(if decide (a<0)=true then-((a.natAbs+b.natAbs:Nat):Int) else((a.natAbs+b.natAbs:Nat):Int))=a+b:=by
 by_cases h1:a<0<;>by_cases h2:b<0<;>simp_all<;>omega
theorem add_diff1(a b:Int)(h:(decide (a<0)==decide (b<0))=false)(hle:b.natAbs≤a.natAbs):(if decide (a<0)=true then-((a.natAbs-b.natAbs:Nat):Int) else((a.natAbs-b.natAbs:Nat):Int))=a+b:=by
 by_cases h1:a<0<;>by_cases h2:b<0<;>simp_all<;>omega
theorem add_diff2(a b:Int)(h:(decide (a<0)==decide (b<0))=false)(hle:a.natAbs≤b.natAbs):(if decide (b<0)=true then-((b.natAbs-a.natAbs:Nat):Int) else((b.natAbs-a.natAbs:Nat):Int))=a+b:=by
 by_cases h1:a<0<;>by_cases h2:b<0<;>simp_all<;>omega
theorem cmpN_ge(m n:Nat)(h:decide ((0:Int)≤(if m<n then-1 else if n<m then 1 else 0))=true):n≤m:=by
 by_cases h1:m<n
 ·simp[h1] at h
 ·omega
theorem cmpN_lt(m n:Nat)(h:decide ((0:Int)≤(if m<n then-1 else if n<m then 1 else 0))=false):m≤n:=by
 by_cases h1:m<n
 ·omega
 ·by_cases h2:n<m<;>simp[h1,h2] at h
theorem mul_val(a b:Int):(if(decide (a<0) !=decide (b<0))=true then-((a.natAbs*b.natAbs:Nat):Int) else((a.natAbs*b.natAbs:Nat):Int))=a*b:=by
 have h:((a.natAbs*b.natAbs:Nat):Int)=(a.natAbs:Int)*(b.natAbs:Int):=Int.natCast_mul _ _
 rw[h]
 by_cases h1:a<0<;>by_cases h2:b<0
 ·rw[show(a.natAbs:Int)= -a by omega,show(b.natAbs:Int)= -b by omega];simp[h1,h2,Int.neg_mul_neg]
 ·rw[show(a.natAbs:Int)= -a by omega,show(b.natAbs:Int)=b by omega];simp[h1,h2,Int.neg_mul]
 ·rw[show(a.natAbs:Int)=a by omega,show(b.natAbs:Int)= -b by omega];simp[h1,h2,Int.mul_neg]
 ·rw[show(a.natAbs:Int)=a by omega,show(b.natAbs:Int)=b by omega];simp[h1,h2]
theorem sign_zero(z:Int)(h:(mag z.natAbs==⟨#[]⟩)=true):(0:Int)=z.sign:=by
 rw[beq_empty] at h;simp at h;subst h;rfl
theorem sign_neg(z:Int)(h:decide (z<0)=true):(-1:Int)=z.sign:=by
 simp at h;rw[Int.sign_eq_neg_one_of_neg h]
theorem sign_pos(z:Int)(h0:(mag z.natAbs==⟨#[]⟩)=false)(h:decide (z<0)=false):(1:Int)=z.sign:=by
 rw[beq_empty] at h0;simp at h h0;rw[Int.sign_eq_one_of_pos (by omega)]
def cmpI(a b:Int):Int:=if a<b then-1 else if b<a then 1 else 0
def cmpN(a b:Nat):Int:=if a<b then-1 else if b<a then 1 else 0
theorem szI_gcd{a b:Int}{m n:Nat}(ha:szI a≤m)(hb:szI b≤n):szI (Int.gcd a b:Int)≤m+n:=by
 unfold szI at*
 simp only[Int.natAbs_natCast]
 rw[Int.gcd_eq_natAbs_gcd_natAbs]
 by_cases h:a.natAbs=0
 ·rw[h,Nat.gcd_zero_left];omega
 ·have:=nb_gcd_left a.natAbs b.natAbs h;omega
theorem divmod_core{a b q r:Int}(hb:b≠0)(h:r+b*q=a)(h0:0≤r)(h1:r<b.natAbs):q=a/b∧r=a%b:=by
 rcases Int.lt_or_lt_of_ne hb with hb'|hb'
 ·have:=(Int.ediv_emod_unique' hb').2 ⟨h,h0,by omega⟩;exact⟨this.1.symm,this.2.symm⟩
 ·have:=(Int.ediv_emod_unique hb').2 ⟨h,h0,by omega⟩;exact⟨this.1.symm,this.2.symm⟩
theorem nat_dm(a b:Int):(a.natAbs:Int)=(b.natAbs:Int)*((a.natAbs/b.natAbs:Nat):Int)+((a.natAbs%b.natAbs:Nat):Int):=by
 rw[←Int.natCast_mul,←Int.natCast_add,Nat.div_add_mod]
theorem divmod_F{a b:Int}(hb:b≠0)(h:¬a<0∨a.natAbs%b.natAbs=0):
 (if(decide (a<0) !=decide (b<0))=true then-((a.natAbs/b.natAbs:Nat):Int) else((a.natAbs/b.natAbs:Nat):Int))=a/b∧((a.natAbs%b.natAbs:Nat):Int)=a%b:=by
 have hd:=nat_dm a b
 have hlt:a.natAbs%b.natAbs<b.natAbs:=Nat.mod_lt _ (by omega)
 generalize a.natAbs/b.natAbs=q at*
 generalize a.natAbs%b.natAbs=r at*
 refine divmod_core hb ?_ (by omega) (by omega)
 by_cases h1:a<0<;>by_cases h2:b<0
 ·have ea:(a.natAbs:Int)= -a:=by omega
  have eb:(b.natAbs:Int)= -b:=by omega
  rw[ea,eb] at hd
  simp[h1,h2]
  have:r=0:=by omega
  subst this;simp at hd ⊢;have e: -b*(q:Int)= -(b*q):=Int.neg_mul _ _;rw[e] at hd;omega
 ·have ea:(a.natAbs:Int)= -a:=by omega
  have eb:(b.natAbs:Int)=b:=by omega
  rw[ea,eb] at hd
  simp[h1,h2]
  have:r=0:=by omega
  subst this;simp at hd ⊢;rw[Int.mul_neg];omega
 ·have ea:(a.natAbs:Int)=a:=by omega
  have eb:(b.natAbs:Int)= -b:=by omega
  rw[ea,eb] at hd
  simp[h1,h2]
  rw[Int.neg_mul] at hd;rw[Int.mul_neg];omega
 ·have ea:(a.natAbs:Int)=a:=by omega
  have eb:(b.natAbs:Int)=b:=by omega
  rw[ea,eb] at hd
  simp[h1,h2];omega
theorem divmod_T{a b:Int}(hb:b≠0)(h:a<0)(hr:a.natAbs%b.natAbs≠0):
 (if(decide (a<0) !=decide (b<0))=true then-((a.natAbs/b.natAbs+1:Nat):Int) else((a.natAbs/b.natAbs+1:Nat):Int))=a/b∧((b.natAbs-a.natAbs%b.natAbs:Nat):Int)=a%b:=by
 have hd:=nat_dm a b
 have hlt:a.natAbs%b.natAbs<b.natAbs:=Nat.mod_lt _ (by omega)
 generalize a.natAbs/b.natAbs=q at*
 generalize a.natAbs%b.natAbs=r at*
 refine divmod_core hb ?_ (by omega) (by omega)
 have ea:(a.natAbs:Int)= -a:=by omega
 by_cases h2:b<0
 ·have eb:(b.natAbs:Int)= -b:=by omega
  rw[ea,eb] at hd
  simp[h,h2]
  rw[Int.neg_mul] at hd;rw[Int.mul_add];omega
 ·have eb:(b.natAbs:Int)=b:=by omega
  rw[ea,eb] at hd
  simp[h,h2]
  rw[Int.mul_neg,Int.mul_add];omega
theorem canon_1{n d:Int}(hd:0<d)(h1:d/(Int.gcd n d:Int)=1):Value.agg #[.bool (decide (n/(Int.gcd n d:Int)<0)),.string (mag (n/(Int.gcd n d:Int)).natAbs),.bool false,.string ⟨#[]⟩]=Q (Rat.divInt n d):=by
 rw[Q_divInt hd,if_pos h1]
theorem canon_2{n d:Int}(hd:0<d)(h1:d/(Int.gcd n d:Int)≠1):Value.agg #[.bool (decide (n/(Int.gcd n d:Int)<0)),.string (mag (n/(Int.gcd n d:Int)).natAbs),.bool (decide (d/(Int.gcd n d:Int)<0)),.string (mag (d/(Int.gcd n d:Int)).natAbs)]=Q (Rat.divInt n d):=by
 rw[Q_divInt hd,if_neg h1]
 congr 5
 have:0≤d/(Int.gcd n d:Int):=Int.ediv_nonneg (by omega) (by omega)
 simp;omega
theorem gcd_ne{n d:Int}(hd:d≠0):(Int.gcd n d:Int)≠0:=by
 have:Int.gcd n d≠0:=by rw[Ne,Int.gcd_eq_zero_iff];omega
 omega
theorem sign_lt{d:Int}(h:decide (d.sign<0)=true):d<0:=by
 simpa using h
theorem sign_ge{d:Int}(h:decide (d.sign<0)=false)(h0:d≠0):0<d:=by
 simp at h;omega
theorem lI_add(a b:Int):szI (a+b)≤szI a+szI b+1:=szI_add (Nat.le_refl _) (Nat.le_refl _)
theorem lI_sub(a b:Int):szI (a-b)≤szI a+szI b+1:=szI_sub (Nat.le_refl _) (Nat.le_refl _)
theorem lI_mul(a b:Int):szI (a*b)≤szI a+szI b:=szI_mul (Nat.le_refl _) (Nat.le_refl _)
theorem lI_neg(a:Int):szI (-a)≤szI a:=szI_neg (Nat.le_refl _)
theorem lI_gcd(a b:Int):szI (Int.gcd a b:Int)≤szI a+szI b:=szI_gcd (Nat.le_refl _) (Nat.le_refl _)
theorem lI_num(q:Rat):szI q.num≤szQ q:=szI_num (Nat.le_refl _)
theorem lI_den(q:Rat):szI (q.den:Int)≤szQ q:=szI_den (Nat.le_refl _)
theorem lQ_add(a b:Rat):szQ (a+b)≤szQ a+szQ b+1:=szQ_add (Nat.le_refl _) (Nat.le_refl _)
theorem lQ_sub(a b:Rat):szQ (a-b)≤szQ a+szQ b+1:=szQ_sub (Nat.le_refl _) (Nat.le_refl _)
theorem lQ_mul(a b:Rat):szQ (a*b)≤szQ a+szQ b:=szQ_mul (Nat.le_refl _) (Nat.le_refl _)
theorem lQ_div(a b:Rat):szQ (a/b)≤szQ a+szQ b:=szQ_div (Nat.le_refl _) (Nat.le_refl _)
theorem lQ_neg(a:Rat):szQ (-a)≤szQ a:=szQ_neg (Nat.le_refl _)
theorem l_nb(a:Int):nb a.natAbs≤szI a:=Nat.le_refl _
theorem Q_zero:Q 0= .agg #[.bool false,.string ⟨#[]⟩,.bool false,.string ⟨#[]⟩]:=by
 show Value.agg #[.bool (decide ((0:Int)<0)),.string (mag 0),.bool false,.string (dm 0)]=_
 rw[mag_zero,show dm 0=⟨#[]⟩ from rfl];rfl
theorem mag_at(n i:Nat)(h:i<nb n):(mag n).data.toList[((i:Int)).toNat]? =some (UInt8.ofNat (n/256^(nb n-1-i)%256)):=by
 rw[Int.toNat_natCast,mag_list];exact magL_getElem? n i h
theorem u8_nat(n:Nat):(((UInt8.ofNat (n%256)).toNat:Nat):Int)=((n%256:Nat):Int):=by
 simp
theorem word_zero(n:Nat):Value.int .u64 0= .int .u64 ((n/256^(nb n-0):Nat):Int):=by
 rw[Nat.sub_zero,Nat.div_eq_of_lt (lt_nb n)];rfl
theorem word_lt(n i:Nat)(hi:i≤nb n):n/256^(nb n-i)<256^i:=by
 rw[Nat.div_lt_iff_lt_mul (Nat.pow_pos (by omega)),←Nat.pow_add,show i+(nb n-i)=nb n by omega];exact lt_nb n
theorem pow256_le{i k:Nat}(h:i≤k):256^i≤256^k:=Nat.pow_le_pow_right (by omega) h
theorem word_shl(n i:Nat)(hi:i≤nb n)(hlt:i<nb n)(h8:nb n≤8):n/256^(nb n-i)*2^8<18446744073709551616:=by
 have h1:=word_lt n i hi
 have h2:256^i≤256^7:=pow256_le (by omega)
 omega
theorem word_step(n i:Nat)(hlt:i<nb n):n/256^(nb n-(i+1))=n/256^(nb n-i)*256+n/256^(nb n-1-i)%256:=by
 have e:nb n-i=(nb n-(i+1))+1:=by omega
 have e2:nb n-1-i=nb n-(i+1):=by omega
 rw[e,e2,Nat.pow_succ,←Nat.div_div_eq_div_mul]
 omega
theorem word_or(n i:Nat)(hi:i≤nb n)(hlt:i<nb n)(h8:nb n≤8):
 IntKind.u64.wrap ((BitVec.ofInt IntKind.u64.bits ((n/256^(nb n-i)*2^8:Nat):Int)|||BitVec.ofInt IntKind.u64.bits ((n/256^(nb n-1-i)%256:Nat):Int)).toNat)=((n/256^(nb n-(i+1)):Nat):Int):=by
 have h1:=word_step n i hlt
 have h2:=word_lt n (i+1) hlt
 have h3:256^(i+1)≤256^8:=pow256_le (by omega)
 exact or_u64 (m:=n/256^(nb n-i)) 8 (by omega) (by omega) (by omega) (by rw[Nat.mul_comm]) rfl
def row(n:Nat)(f:Nat→Nat):List Nat:=(List.range n).map f
theorem row_length(n:Nat)(f:Nat→Nat):(row n f).length=n:=by simp[row]
theorem row_get{n:Nat}{f:Nat→Nat}{i:Nat}(h:i<n):(row n f)[i]? =some (f i):=by simp[row,h]
theorem row_congr{n:Nat}{f g:Nat→Nat}(h:∀j,j<n→f j=g j):row n f=row n g:=by
 unfold row;exact List.map_congr_left fun j hj=>h j (List.mem_range.1 hj)
theorem row_set{n:Nat}{f g:Nat→Nat}{i v:Nat}(h:∀j,j<n→g j=if j=i then v else f j):(row n f).set i v=row n g:=by
 apply List.ext_getElem?
 intro j
 by_cases hj:j<n
 ·rw[row_get hj,h j hj]
  by_cases e:i=j
  ·subst e;rw[List.getElem?_set_self (by rw[row_length];exact hj)];simp
  ·rw[List.getElem?_set_ne e,row_get hj,if_neg (Ne.symm e)]
 ·rw[List.getElem?_eq_none (by simp[row_length];omega),List.getElem?_eq_none (by rw[row_length];omega)]
theorem digs_row{B:Nat}(hB:2≤B)(n:Nat):digs B n=row (digs B n).length (fun j=>n/B^j%B):=by
 apply List.ext_getElem?
 intro j
 by_cases hj:j<(digs B n).length
 ·rw[row_get hj,digs_getElem? hB n j hj]
 ·rw[List.getElem?_eq_none (by omega),List.getElem?_eq_none (by rw[row_length];omega)]
theorem val_row(B:Nat)(hB:1≤B)(n:Nat):∀k,val B (row k (fun j=>n/B^j%B))=n%B^k
 |0=>by simp[row,val,Nat.mod_one]
 |k+1=>by
  have e:row (k+1) (fun j=>n/B^j%B)=row k (fun j=>n/B^j%B)++[n/B^k%B]:=by simp[row,List.range_succ]
  rw[e,val_snoc,row_length,val_row B hB n k,Nat.pow_succ,Nat.mod_mul]
theorem row_lt{B n:Nat}{f:Nat→Nat}(h:∀j,f j<B):∀d∈row n f,d<B:=by
 intro d hd;obtain⟨j,_,rfl⟩:=List.mem_map.1 hd;exact h j
theorem row_zero(n:Nat):row n (fun _=>0)=List.replicate n 0:=by
 apply List.ext_getElem?
 intro j
 by_cases hj:j<n
 ·rw[row_get hj];simp[hj]
 ·rw[List.getElem?_eq_none (by rw[row_length];omega),List.getElem?_eq_none (by simp;omega)]
theorem weak_eq{L L':List Blk}(h:L=L'):Weak L L':=h▸Weak.refl _
def magT(u i j:Nat):Nat:=if j<nb u∧nb u-1-j<i then u/256^(nb u-1-j)%256 else 0
theorem magT_zero(u:Nat):NV .u8 (row 8 (magT u 0))=[.int .u8 0,.int .u8 0,.int .u8 0,.int .u8 0,.int .u8 0,.int .u8 0,.int .u8 0,.int .u8 0]:=by
 rw[row_congr (g:=fun _=>0) (fun j _=>by simp[magT]),row_zero];rfl
theorem magT_step(u i:Nat)(hi:i<nb u):(NV .u8 (row 8 (magT u i))).set (nb u-1-i) (.int .u8 ((u/2^(8*i)%256:Nat):Int))=NV .u8 (row 8 (magT u (i+1))):=by
 rw[NV_set,row_set (g:=magT u (i+1))]
 intro j _
 unfold magT
 by_cases e:j=nb u-1-i
 ·subst e
  rw[if_pos rfl,if_pos (by omega),show nb u-1-(nb u-1-i)=i by omega,Nat.pow_mul]
 ·rw[if_neg e]
  by_cases c:j<nb u∧nb u-1-j<i
  ·rw[if_pos c,if_pos (by omega)]
  ·rw[if_neg c,if_neg (by omega)]
theorem magT_end(u:Nat)(h8:nb u≤8):(NV .u8 (row 8 (magT u (nb u)))).take (nb u)=NV .u8 (digs 256 u).reverse:=by
 rw[NV_take]
 congr 1
 apply List.ext_getElem?
 intro j
 by_cases hj:j<nb u
 ·rw[List.getElem?_take,if_pos hj,row_get (by omega)]
  rw[List.getElem?_reverse (by exact hj)]
  have e:=digs_getElem? (B:=256) (by omega) u (nb u-1-j) (by unfold nb at*;omega)
  unfold nb at e hj ⊢
  rw[e]
  unfold magT
  rw[if_pos (by unfold nb;omega)];rfl
 ·rw[List.getElem?_eq_none (by simp;omega),List.getElem?_eq_none (by simp;unfold nb at hj;omega)]
theorem strN_mag(u:Nat):strN (digs 256 u).reverse=mag u:=rfl
theorem nb_le8{u:Nat}(h:u<18446744073709551616):nb u≤8:=nb_le (by omega)
theorem nb_pos{u:Nat}(h:u≠0):0<nb u:=by have:=nb_eq_zero (n:=u);omega
theorem or_u32'{m n r:Nat}(i:Nat)(hn:n<2^i)(hr:n+2^i*m=r)(hb:r<4294967296){x y:Int}(hx:x=(n:Int))(hy:y=((2^i*m:Nat):Int)):
 IntKind.u32.wrap ((BitVec.ofInt IntKind.u32.bits x|||BitVec.ofInt IntKind.u32.bits y).toNat)=(r:Int):=by
 rw[BitVec.or_comm];exact or_u32 i hn (by omega) hb hy hx
def B32:Nat:=4294967296
theorem B32_two:2≤B32:=by decide
theorem B32_pow(j:Nat):B32^j=256^(4*j):=by rw[show B32=256^4 from rfl,←Nat.pow_mul]
theorem digB_len(n:Nat):(digs B32 n).length=(nb n+3)/4:=by
 have e1:(digs B32 n).length≤(nb n+3)/4:=digs_length_le B32_two (by
 rw[B32_pow];exact Nat.lt_of_lt_of_le (lt_nb n) (pow256_le (by omega)))
 have e2:(nb n+3)/4≤(digs B32 n).length:=by
  by_cases h0:nb n=0
  ·rw[h0];omega
  ·have hn:nb n≤4*(digs B32 n).length:=nb_le (by rw[←B32_pow];exact lt_pow_digs B32_two n)
   omega
 omega
def digT(n i j:Nat):Nat:=n%256^i/256^(4*j)%B32
theorem digT_zero(n j:Nat):digT n 0 j=0:=by simp[digT,Nat.mod_one]
theorem digT_end(n:Nat):row ((nb n+3)/4) (digT n (nb n))=digs B32 n:=by
 rw[digs_row B32_two n,digB_len]
 refine row_congr fun j _=>?_
 unfold digT
 rw[Nat.mod_eq_of_lt (lt_nb n),B32_pow]
theorem mod_succ256(n i:Nat):n%256^(i+1)=n%256^i+256^i*(n/256^i%256):=by rw[Nat.pow_succ,Nat.mod_mul]
theorem digT_low(n i:Nat):digT n i (i/4)<2^(8*(i%4)):=by
 unfold digT
 have h1:n%256^i/256^(4*(i/4))<256^(i%4):=by
  rw[Nat.div_lt_iff_lt_mul (Nat.pow_pos (by omega)),←Nat.pow_add,show i%4+4*(i/4)=i by omega]
  exact Nat.mod_lt _ (Nat.pow_pos (by omega))
 have e2:2^(8*(i%4))=256^(i%4):=by rw[Nat.pow_mul]
 rw[e2]
 exact Nat.lt_of_le_of_lt (Nat.mod_le _ _) h1
theorem digT_sum(n i:Nat):digT n i (i/4)+2^(8*(i%4))*(n/256^i%256)<4294967296:=by
 have h1:=digT_low n i
 have h2:n/256^i%256<256:=Nat.mod_lt _ (by omega)
 have h3:2^(8*(i%4))*(n/256^i%256+1)≤2^(8*(i%4))*256:=Nat.mul_le_mul_left _ h2
 have h4:2^(8*(i%4))*256≤4294967296:=by
  have:i%4=0∨i%4=1∨i%4=2∨i%4=3:=by omega
  rcases this with e|e|e|e<;>rw[e]<;>decide
 rw[Nat.mul_add] at h3
 omega
theorem digT_step(n i j:Nat):digT n (i+1) j=if j=i/4 then digT n i j+2^(8*(i%4))*(n/256^i%256) else digT n i j:=by
 have hb:n/256^i%256<256:=Nat.mod_lt _ (by omega)
 have hA:n%256^i<256^i:=Nat.mod_lt _ (Nat.pow_pos (by omega))
 split
 ·rename_i e
  subst e
  have hs:=digT_sum n i
  have hl:=digT_low n i
  unfold digT at*
  rw[mod_succ256]
  generalize n/256^i%256=b at*
  have e1:256^i*b=256^(4*(i/4))*(256^(i%4)*b):=by
   rw[←Nat.mul_assoc,←Nat.pow_add,show 4*(i/4)+i%4=i by omega]
  rw[e1,Nat.add_mul_div_left _ _ (Nat.pow_pos (by omega))]
  have e2:2^(8*(i%4))=256^(i%4):=by rw[Nat.pow_mul]
  rw[e2] at hs hl ⊢
  have h1:n%256^i/256^(4*(i/4))<256^(i%4):=by
   rw[Nat.div_lt_iff_lt_mul (Nat.pow_pos (by omega)),←Nat.pow_add,show i%4+4*(i/4)=i by omega];exact hA
  have h2:256^(i%4)≤B32:=by
   have:256^(i%4)≤256^4:=pow256_le (by omega)
   exact this
  have h3:n%256^i/256^(4*(i/4))%B32=n%256^i/256^(4*(i/4)):=Nat.mod_eq_of_lt (by omega)
  rw[h3] at hs ⊢
  exact Nat.mod_eq_of_lt hs
 ·rename_i e
  unfold digT
  rw[mod_succ256]
  generalize n/256^i%256=b at*
  by_cases h:j<i/4
  ·have e1:256^i*b=256^(4*j)*(B32*(256^(i-4*j-4)*b)):=by
    rw[show B32=256^4 from rfl,←Nat.mul_assoc,←Nat.mul_assoc,←Nat.pow_add,←Nat.pow_add,show 4*j+4+(i-4*j-4)=i by omega]
   rw[e1,Nat.add_mul_div_left _ _ (Nat.pow_pos (by omega)),Nat.add_mul_mod_self_left]
  ·have h1:i+1≤4*j:=by omega
   have h2:256^(i+1)≤256^(4*j):=pow256_le h1
   have h3:n%256^i+256^i*b<256^(4*j):=by
    have:256^i*(b+1)≤256^i*256:=Nat.mul_le_mul_left _ hb
    rw[Nat.mul_add] at this
    rw[Nat.pow_succ] at h2
    omega
   rw[Nat.div_eq_of_lt h3,Nat.div_eq_of_lt (by omega)]
def bytT(n M p j:Nat):Nat:=if M-1-j<p then n/256^(M-1-j)%256 else 0
theorem bytT_zero(n M j:Nat):bytT n M 0 j=0:=by simp[bytT]
theorem bytT_step(n M p v:Nat)(hp:p<M)(hv:v=n/256^p%256):(NV .u8 (row M (bytT n M p))).set (M-1-p) (.int .u8 (v:Int))=NV .u8 (row M (bytT n M (p+1))):=by
 rw[NV_set,row_set (g:=bytT n M (p+1))]
 intro j hj
 unfold bytT
 by_cases e:j=M-1-p
 ·subst e;rw[if_pos rfl,if_pos (by omega),show M-1-(M-1-p)=p by omega,hv]
 ·rw[if_neg e]
  by_cases c:M-1-j<p
  ·rw[if_pos c,if_pos (by omega)]
  ·rw[if_neg c,if_neg (by omega)]
theorem natL_zero_cons(l:List UInt8):natL (0::l)=natL l:=by
 unfold natL;rw[List.reverse_cons,List.map_append,val_append];simp[val]
theorem natL_dropWhile:∀l:List UInt8,natL (l.dropWhile (· ==0))=natL l
 |[]=>rfl
 |x::l=>by
  by_cases h:x=0
  ·subst h;rw[List.dropWhile_cons_of_pos (by rfl),natL_zero_cons];exact natL_dropWhile l
  ·rw[List.dropWhile_cons_of_neg (by simpa using h)]
theorem head_dropWhile:∀l:List UInt8,(l.dropWhile (· ==0)).head? ≠some 0
 |[]=>by simp
 |x::l=>by
  by_cases h:x=0
  ·subst h;rw[List.dropWhile_cons_of_pos (by rfl)];exact head_dropWhile l
  ·rw[List.dropWhile_cons_of_neg (by simpa using h)];simpa using h
def strU(l:List UInt8):ByteArray:=⟨l.toArray⟩
theorem strU_size(l:List UInt8):(strU l).size=l.length:=by show l.toArray.size=_;simp
theorem bytT_trim(n M:Nat)(h:n<256^M):strU (((row M (bytT n M M)).map UInt8.ofNat).dropWhile (· ==0))=mag n:=by
 have e1:natL ((row M (bytT n M M)).map UInt8.ofNat)=n:=by
  unfold natL
  have e2:((row M (bytT n M M)).map UInt8.ofNat).reverse.map UInt8.toNat=row M (fun j=>n/256^j%256):=by
   rw[←List.map_reverse,map_toNat_ofNat]
   ·apply List.ext_getElem?
    intro j
    by_cases hj:j<M
    ·rw[List.getElem?_reverse (by rw[row_length];exact hj),row_length,row_get (by omega),row_get hj]
     unfold bytT
     rw[if_pos (by omega),show M-1-(M-1-j)=j by omega]
    ·rw[List.getElem?_eq_none (by simp[row_length];omega),List.getElem?_eq_none (by rw[row_length];omega)]
   ·intro d hd
    rw[List.mem_reverse] at hd
    exact row_lt (B:=256) (fun j=>by unfold bytT;split<;>omega) d hd
  rw[e2,val_row 256 (by omega),Nat.mod_eq_of_lt h]
 have e3:=magL_natL (head_dropWhile ((row M (bytT n M M)).map UInt8.ofNat))
 rw[natL_dropWhile,e1] at e3
 unfold strU mag
 rw[e3]
theorem strN_eq(l:List Nat):strN l=strU (l.map UInt8.ofNat):=rfl
theorem digs_get{B n i:Nat}(hB:2≤B)(h:i<(digs B n).length):(digs B n)[i]? =some (n/B^i%B):=digs_getElem? hB n i h
theorem digit_byte(n i k:Nat)(hk:k<4):n/B32^i%B32/2^(8*k)%256=n/256^(4*i+k)%256:=by
 have e:B32=256^k*256^(4-k):=by rw[←Nat.pow_add,show k+(4-k)=4 by omega];rfl
 have e8:2^(8*k)=256^k:=by rw[Nat.pow_mul]
 rw[B32_pow,e,Nat.mod_mul,e8,Nat.add_mul_div_left _ _ (Nat.pow_pos (by omega)),Nat.div_eq_of_lt (Nat.mod_lt _ (Nat.pow_pos (by omega))),Nat.zero_add,Nat.div_div_eq_div_mul,←Nat.pow_add]
 have e2:256^(4-k)=256*256^(3-k):=by rw[show 4-k=(3-k)+1 by omega,Nat.pow_succ,Nat.mul_comm]
 rw[e2,Nat.mod_mul,Nat.add_mul_mod_self_left,Nat.mod_mod]
theorem trim_len{B:Nat}(hB:2≤B){l:List Nat}(hl:∀d∈l,d<B){m:Nat}(hm:m≤l.length)(hv:val B (l.take m)=val B l)(hz:m=0∨∃h:m-1<l.length,l[m-1]≠0):m=(digs B (val B l)).length:=by
 rw[←trim_end hB hl hm hv hz,List.length_take];omega
theorem trim_step'{B:Nat}{l:List Nat}{m:Nat}(h0:0<m)(hm:m≤l.length)(hv:val B (l.take m)=val B l)(h:m-1<l.length)(hz:l[m-1]=0):val B (l.take (m-1))=val B l:=by
 obtain⟨k,rfl⟩:∃k,m=k+1:=⟨m-1,by omega⟩
 exact trim_step hm hv (by simpa using hz)
theorem trim_take{B:Nat}(hB:2≤B):∀{l:List Nat},(∀d∈l,d<B)→l.take (digs B (val B l)).length=digs B (val B l):=by
 have key:∀(n:Nat) (l:List Nat),l.length=n→(∀d∈l,d<B)→∃m,m≤l.length∧l.take m=digs B (val B l):=by
  intro n
  induction n with
  |zero=>intro l hl h;have:l=[]:=List.eq_nil_of_length_eq_zero hl;subst this;exact⟨0,by simp,by simp[val,digs_zero]⟩
  |succ n ih=>
   intro l hl h
   by_cases hz:l[n]'(by omega)=0
   ·have e:l=l.take n++[0]:=by
     conv=>lhs;rw[←List.take_append_drop n l]
     rw[List.drop_eq_getElem_cons (by omega),hz,List.drop_eq_nil_of_le (by omega)]
    obtain⟨m,h1,h2⟩:=ih (l.take n) (by simp;omega) (all_take h n)
    have hv:val B l=val B (l.take n):=by
     conv=>lhs;rw[e]
     rw[val_snoc];omega
    refine⟨m,by simp at h1;omega,?_⟩
    rw[hv,←h2,List.take_take];congr 1;simp at h1;omega
   ·exact⟨n+1,by omega,trim_end hB h (by omega) (by rw[List.take_of_length_le (by omega)]) (.inr ⟨by omega,by simpa using hz⟩)⟩
 intro l h
 obtain⟨m,h1,h2⟩:=key _ l rfl h
 have:m=(digs B (val B l)).length:=by rw[←h2,List.length_take];omega
 rw[←this];exact h2
end Go.Via
namespace Go.Proofs
open Go.Shelf
def Tryz.lays156_ren:Go.Shelf.Ren:=⟨fun|156=>58|165=>93|166=>94|169=>95|240=>122|241=>123|276=>152|277=>153|n=>n,fun|31=>36|9=>9|3=>3|4=>4|0=>0|20=>20|72=>127|76=>131|70=>124|37=>125|75=>130|127=>164|164=>194|5=>5|80=>103|n=>n,fun|n=>n⟩
theorem Tryz.lays156:Go.Proofs.Lays.n156 Tryz.prog Tryz.lays156_ren:={
 mixed:=by kernel_rfl
 f156:=Tryz.func58.trans (congrArg some (by kernel_rfl))
 f165:=Tryz.func93.trans (congrArg some (by kernel_rfl))
 f166:=Tryz.func94.trans (congrArg some (by kernel_rfl))
 f169:=Tryz.func95.trans (congrArg some (by kernel_rfl))
 f240:=Tryz.func122.trans (congrArg some (by kernel_rfl))
 f241:=Tryz.func123.trans (congrArg some (by kernel_rfl))
 f276:=Tryz.func152.trans (congrArg some (by kernel_rfl))
 f277:=Tryz.func153.trans (congrArg some (by kernel_rfl))
 t0:=Tryz.underlying0
 a0:=Tryz.isAgg0
 z0:=Tryz.sizeOf0
 v0:=Tryz.zeroValue0
 t3:=Tryz.underlying3
 a3:=Tryz.isAgg3
 z3:=Tryz.sizeOf3
 v3:=Tryz.zeroValue3
 t4:=Tryz.underlying4
 a4:=Tryz.isAgg4
 z4:=Tryz.sizeOf4
 v4:=Tryz.zeroValue4
 t9:=Tryz.underlying9
 a9:=Tryz.isAgg9
 z9:=Tryz.sizeOf9
 v9:=Tryz.zeroValue9
 t20:=Tryz.underlying20
 a20:=Tryz.isAgg20
 z20:=Tryz.sizeOf20
 v20:=Tryz.zeroValue20
 t31:=Tryz.underlying36
 a31:=Tryz.isAgg36
 z31:=Tryz.sizeOf36
 v31:=Tryz.zeroValue36
 t37:=Tryz.underlying125
 a37:=Tryz.isAgg125
 z37:=Tryz.sizeOf125
 v37:=Tryz.zeroValue125
 t70:=Tryz.underlying124
 a70:=Tryz.isAgg124
 z70:=Tryz.sizeOf124
 v70:=Tryz.zeroValue124
 t72:=Tryz.underlying127
 a72:=Tryz.isAgg127
 z72:=Tryz.sizeOf127
 v72:=Tryz.zeroValue127
 t75:=Tryz.underlying130
 a75:=Tryz.isAgg130
 z75:=Tryz.sizeOf130
 v75:=Tryz.zeroValue130
 t76:=Tryz.underlying131
 a76:=Tryz.isAgg131
 z76:=Tryz.sizeOf131
 v76:=Tryz.zeroValue131
 t127:=Tryz.underlying164
 a127:=Tryz.isAgg164
 z127:=Tryz.sizeOf164
 v127:=Tryz.zeroValue164
 t164:=Tryz.underlying194
 a164:=Tryz.isAgg194
 z164:=Tryz.sizeOf194
 v164:=Tryz.zeroValue194}
theorem Tryz.Builder_Extra_156:Builder.Extra Tryz.prog Tryz.lays156_ren:={
 sizeBuilder:=by kernel_rfl
 liesBuilder:=by kernel_rfl
 t5:=Tryz.underlying5
 a5:=Tryz.isAgg5
 z5:=Tryz.sizeOf5
 v5:=Tryz.zeroValue5
 infoByte:=by kernel_rfl
 cellsByte:=by kernel_rfl
 sizeByte:=by kernel_rfl
 neB5:=by decide}
open Go.RowKit in
theorem Tryz.strings_Join(bk o c:Nat)(xs:List ByteArray)(sep:ByteArray)(w:World)(hcells:∀(j:Nat) x,xs[j]? =some x→w.cell? ⟨bk,o+j,none⟩=some (.string x))(hbk:bk<w.heap.size)(hN:xs.length≤140737488355328)(hcap:xs.length≤c)(hlen:(Lib.join (xs.map (·.data.toList)) sep.data.toList).length≤140737488355328):
 Calls Tryz.prog 58 #[.slice (some ⟨bk,o,none⟩) xs.length c,.string sep] w fun e w'=>e= .returned (.string ⟨(Lib.join (xs.map (·.data.toList)) sep.data.toList).toArray⟩)∧Below w.heap.size w w':=Any.strings_Join Tryz.lays156 Tryz.Builder_Extra_156 bk o c xs sep w hcells hbk hN hcap hlen
def Tryz.lays133_ren:Go.Shelf.Ren:=⟨fun|133=>163|128=>120|n=>n,fun|51=>161|3=>3|4=>4|46=>123|5=>5|9=>9|n=>n,fun|n=>n⟩
theorem Tryz.lays133:Go.Proofs.Lays.n133 Tryz.prog Tryz.lays133_ren:={
 mixed:=by kernel_rfl
 f128:=Tryz.func120.trans (congrArg some (by kernel_rfl))
 f133:=Tryz.func163.trans (congrArg some (by kernel_rfl))
 t3:=Tryz.underlying3
 a3:=Tryz.isAgg3
 z3:=Tryz.sizeOf3
 v3:=Tryz.zeroValue3
 t4:=Tryz.underlying4
 a4:=Tryz.isAgg4
 z4:=Tryz.sizeOf4
 v4:=Tryz.zeroValue4
 t5:=Tryz.underlying5
 a5:=Tryz.isAgg5
 z5:=Tryz.sizeOf5
 v5:=Tryz.zeroValue5
 t9:=Tryz.underlying9
 a9:=Tryz.isAgg9
 z9:=Tryz.sizeOf9
 v9:=Tryz.zeroValue9
 t46:=Tryz.underlying123
 a46:=Tryz.isAgg123
 z46:=Tryz.sizeOf123
 v46:=Tryz.zeroValue123
 t51:=Tryz.underlying161
 a51:=Tryz.isAgg161
 z51:=Tryz.sizeOf161
 v51:=Tryz.zeroValue161}
theorem Tryz.bits_LeadingZeros32(x:Int)(w:World)(h0:0≤x)(h1:x≤4294967295):
 Calls Tryz.prog 163 #[.int .u32 x] w fun e w'=>e= .returned (.int .i64 (32-(Lib.bitLen x.toNat:Int)))∧w'=w:=Any.bits_LeadingZeros32 Tryz.lays133 x w h0 h1
def Tryz.lays106_ren:Go.Shelf.Ren:=⟨fun|106=>161|213=>175|265=>186|n=>n,fun|9=>9|3=>3|n=>n,fun|n=>n⟩
theorem Tryz.lays106:Go.Proofs.Lays.n106 Tryz.prog Tryz.lays106_ren:={
 mixed:=by kernel_rfl
 f106:=Tryz.func161.trans (congrArg some (by kernel_rfl))
 f213:=Tryz.func175.trans (congrArg some (by kernel_rfl))
 f265:=Tryz.func186.trans (congrArg some (by kernel_rfl))
 t3:=Tryz.underlying3
 a3:=Tryz.isAgg3
 z3:=Tryz.sizeOf3
 v3:=Tryz.zeroValue3
 t9:=Tryz.underlying9
 a9:=Tryz.isAgg9
 z9:=Tryz.sizeOf9
 v9:=Tryz.zeroValue9}
open Go.RowKit in
theorem Tryz.strings_Compare(a b:ByteArray)(w:World):
 Calls Tryz.prog 161 #[.string a,.string b] w fun e w'=>e= .returned (.int .i64 (Lib.compareBytes a.data.toList b.data.toList))∧w'=w:=Any.strings_Compare Tryz.lays106 a b w
def Tryz.lays103_ren:Go.Shelf.Ren:=⟨fun|103=>171|210=>181|206=>194|n=>n,fun|9=>9|4=>4|24=>211|3=>3|n=>n,fun|n=>n⟩
theorem Tryz.lays103:Go.Proofs.Lays.n103 Tryz.prog Tryz.lays103_ren:={
 mixed:=by kernel_rfl
 f103:=Tryz.func171.trans (congrArg some (by kernel_rfl))
 f206:=Tryz.func194.trans (congrArg some (by kernel_rfl))
 f210:=Tryz.func181.trans (congrArg some (by kernel_rfl))
 t3:=Tryz.underlying3
 a3:=Tryz.isAgg3
 z3:=Tryz.sizeOf3
 v3:=Tryz.zeroValue3
 t4:=Tryz.underlying4
 a4:=Tryz.isAgg4
 z4:=Tryz.sizeOf4
 v4:=Tryz.zeroValue4
 t9:=Tryz.underlying9
 a9:=Tryz.isAgg9
 z9:=Tryz.sizeOf9
 v9:=Tryz.zeroValue9
 t24:=Tryz.underlying211
 a24:=Tryz.isAgg211
 z24:=Tryz.sizeOf211
 v24:=Tryz.zeroValue211}
open Go.RowKit in
theorem Tryz.strings_CutPrefix(s p:ByteArray)(w:World):
 Calls Tryz.prog 171 #[.string s,.string p] w fun e w'=>e= .returned (.tuple #[.string ⟨(Lib.trimPrefix s.data.toList p.data.toList).toArray⟩,.bool (Lib.hasPrefix s.data.toList p.data.toList)])∧w'=w:=Any.strings_CutPrefix Tryz.lays103 s p w
def Tryz.lays129_ren:Go.Shelf.Ren:=⟨fun|129=>121|n=>n,fun|53=>163|3=>3|4=>4|46=>123|5=>5|9=>9|n=>n,fun|n=>n⟩
theorem Tryz.lays129:Go.Proofs.Lays.n129 Tryz.prog Tryz.lays129_ren:={
 mixed:=by kernel_rfl
 f129:=Tryz.func121.trans (congrArg some (by kernel_rfl))
 t3:=Tryz.underlying3
 a3:=Tryz.isAgg3
 z3:=Tryz.sizeOf3
 v3:=Tryz.zeroValue3
 t4:=Tryz.underlying4
 a4:=Tryz.isAgg4
 z4:=Tryz.sizeOf4
 v4:=Tryz.zeroValue4
 t5:=Tryz.underlying5
 a5:=Tryz.isAgg5
 z5:=Tryz.sizeOf5
 v5:=Tryz.zeroValue5
 t9:=Tryz.underlying9
 a9:=Tryz.isAgg9
 z9:=Tryz.sizeOf9
 v9:=Tryz.zeroValue9
 t46:=Tryz.underlying123
 a46:=Tryz.isAgg123
 z46:=Tryz.sizeOf123
 v46:=Tryz.zeroValue123
 t53:=Tryz.underlying163
 a53:=Tryz.isAgg163
 z53:=Tryz.sizeOf163
 v53:=Tryz.zeroValue163}
theorem Tryz.bits_Len64(x:Int)(w:World)(h0:0≤x)(h1:x≤18446744073709551615):
 Calls Tryz.prog 121 #[.int .u64 x] w fun e w'=>e= .returned (.int .i64 (Lib.bitLen x.toNat))∧w'=w:=Any.bits_Len64 Tryz.lays129 x w h0 h1
def Tryz.lays217_ren:Go.Shelf.Ren:=⟨fun|217=>155|266=>169|n=>n,fun|9=>9|5=>5|3=>3|n=>n,fun|n=>n⟩
theorem Tryz.lays217:Go.Proofs.Lays.n217 Tryz.prog Tryz.lays217_ren:={
 mixed:=by kernel_rfl
 f217:=Tryz.func155.trans (congrArg some (by kernel_rfl))
 f266:=Tryz.func169.trans (congrArg some (by kernel_rfl))
 t3:=Tryz.underlying3
 a3:=Tryz.isAgg3
 z3:=Tryz.sizeOf3
 v3:=Tryz.zeroValue3
 t5:=Tryz.underlying5
 a5:=Tryz.isAgg5
 z5:=Tryz.sizeOf5
 v5:=Tryz.zeroValue5
 t9:=Tryz.underlying9
 a9:=Tryz.isAgg9
 z9:=Tryz.sizeOf9
 v9:=Tryz.zeroValue9}
open Go.RowKit Go.Lib in
theorem Tryz.stringslite_IndexByte(s:ByteArray)(c:Int)(w:World):
 Calls Tryz.prog 155 #[.string s,.int .u8 c] w fun e w'=>e= .returned (.int .i64 (Lib.indexByte s.data.toList c.toNat.toUInt8))∧w'=w:=Any.stringslite_IndexByte Tryz.lays217 s c w
def Tryz.lays155_ren:Go.Shelf.Ren:=⟨fun|155=>125|154=>154|138=>166|165=>93|143=>167|166=>94|197=>168|169=>95|195=>177|218=>178|240=>122|241=>123|219=>179|260=>180|276=>152|277=>153|217=>155|225=>191|224=>192|267=>193|266=>169|314=>201|n=>n,fun|9=>9|3=>3|4=>4|72=>127|0=>0|76=>131|105=>208|21=>21|5=>5|70=>124|20=>20|37=>125|75=>130|127=>164|164=>194|46=>123|119=>227|139=>230|138=>229|146=>234|51=>161|80=>103|n=>n,fun|1=>0|3=>1|4=>2|n=>n⟩
theorem Tryz.lays155:Go.Proofs.Lays.n155 Tryz.prog Tryz.lays155_ren:={
 mixed:=by kernel_rfl
 f138:=Tryz.func166.trans (congrArg some (by kernel_rfl))
 f143:=Tryz.func167.trans (congrArg some (by kernel_rfl))
 f154:=Tryz.func154.trans (congrArg some (by kernel_rfl))
 f155:=Tryz.func125.trans (congrArg some (by kernel_rfl))
 f165:=Tryz.func93.trans (congrArg some (by kernel_rfl))
 f166:=Tryz.func94.trans (congrArg some (by kernel_rfl))
 f169:=Tryz.func95.trans (congrArg some (by kernel_rfl))
 f195:=Tryz.func177.trans (congrArg some (by kernel_rfl))
 f197:=Tryz.func168.trans (congrArg some (by kernel_rfl))
 f217:=Tryz.func155.trans (congrArg some (by kernel_rfl))
 f218:=Tryz.func178.trans (congrArg some (by kernel_rfl))
 f219:=Tryz.func179.trans (congrArg some (by kernel_rfl))
 f224:=Tryz.func192.trans (congrArg some (by kernel_rfl))
 f225:=Tryz.func191.trans (congrArg some (by kernel_rfl))
 f240:=Tryz.func122.trans (congrArg some (by kernel_rfl))
 f241:=Tryz.func123.trans (congrArg some (by kernel_rfl))
 f260:=Tryz.func180.trans (congrArg some (by kernel_rfl))
 f266:=Tryz.func169.trans (congrArg some (by kernel_rfl))
 f267:=Tryz.func193.trans (congrArg some (by kernel_rfl))
 f276:=Tryz.func152.trans (congrArg some (by kernel_rfl))
 f277:=Tryz.func153.trans (congrArg some (by kernel_rfl))
 f314:=Tryz.func201.trans (congrArg some (by kernel_rfl))
 t0:=Tryz.underlying0
 a0:=Tryz.isAgg0
 z0:=Tryz.sizeOf0
 v0:=Tryz.zeroValue0
 t3:=Tryz.underlying3
 a3:=Tryz.isAgg3
 z3:=Tryz.sizeOf3
 v3:=Tryz.zeroValue3
 t4:=Tryz.underlying4
 a4:=Tryz.isAgg4
 z4:=Tryz.sizeOf4
 v4:=Tryz.zeroValue4
 t5:=Tryz.underlying5
 a5:=Tryz.isAgg5
 z5:=Tryz.sizeOf5
 v5:=Tryz.zeroValue5
 t9:=Tryz.underlying9
 a9:=Tryz.isAgg9
 z9:=Tryz.sizeOf9
 v9:=Tryz.zeroValue9
 t20:=Tryz.underlying20
 a20:=Tryz.isAgg20
 z20:=Tryz.sizeOf20
 v20:=Tryz.zeroValue20
 t21:=Tryz.underlying21
 a21:=Tryz.isAgg21
 z21:=Tryz.sizeOf21
 v21:=Tryz.zeroValue21
 t37:=Tryz.underlying125
 a37:=Tryz.isAgg125
 z37:=Tryz.sizeOf125
 v37:=Tryz.zeroValue125
 t46:=Tryz.underlying123
 a46:=Tryz.isAgg123
 z46:=Tryz.sizeOf123
 v46:=Tryz.zeroValue123
 t51:=Tryz.underlying161
 a51:=Tryz.isAgg161
 z51:=Tryz.sizeOf161
 v51:=Tryz.zeroValue161
 t70:=Tryz.underlying124
 a70:=Tryz.isAgg124
 z70:=Tryz.sizeOf124
 v70:=Tryz.zeroValue124
 t72:=Tryz.underlying127
 a72:=Tryz.isAgg127
 z72:=Tryz.sizeOf127
 v72:=Tryz.zeroValue127
 t75:=Tryz.underlying130
 a75:=Tryz.isAgg130
 z75:=Tryz.sizeOf130
 v75:=Tryz.zeroValue130
 t76:=Tryz.underlying131
 a76:=Tryz.isAgg131
 z76:=Tryz.sizeOf131
 v76:=Tryz.zeroValue131
 t105:=Tryz.underlying208
 a105:=Tryz.isAgg208
 z105:=Tryz.sizeOf208
 v105:=Tryz.zeroValue208
 t119:=Tryz.underlying227
 a119:=Tryz.isAgg227
 z119:=Tryz.sizeOf227
 t127:=Tryz.underlying164
 a127:=Tryz.isAgg164
 z127:=Tryz.sizeOf164
 v127:=Tryz.zeroValue164
 t138:=Tryz.underlying229
 a138:=Tryz.isAgg229
 z138:=Tryz.sizeOf229
 v138:=Tryz.zeroValue229
 t139:=Tryz.underlying230
 a139:=Tryz.isAgg230
 z139:=Tryz.sizeOf230
 v139:=Tryz.zeroValue230
 t146:=Tryz.underlying234
 a146:=Tryz.isAgg234
 z146:=Tryz.sizeOf234
 v146:=Tryz.zeroValue234
 t164:=Tryz.underlying194
 a164:=Tryz.isAgg194
 z164:=Tryz.sizeOf194
 v164:=Tryz.zeroValue194
 g1:=by kernel_rfl
 g3:=by kernel_rfl
 g4:=by kernel_rfl}
theorem Tryz.Builder_Extra_155:Builder.Extra Tryz.prog Tryz.lays155_ren:={
 sizeBuilder:=by kernel_rfl
 liesBuilder:=by kernel_rfl
 t5:=Tryz.underlying5
 a5:=Tryz.isAgg5
 z5:=Tryz.sizeOf5
 v5:=Tryz.zeroValue5
 infoByte:=by kernel_rfl
 cellsByte:=by kernel_rfl
 sizeByte:=by kernel_rfl
 neB5:=by decide}
open Go.RowKit Go.Lib in
theorem Tryz.strings_ReplaceAll(s old new:ByteArray)(m:Int)(w:World)(hs:s.size<4294967281)(hm:w.cell? ⟨0,0,none⟩=some (.int .i64 m))(h1:1≤old.size)(hlen:s.size+Lib.countB s old*new.size≤140737488355328):
 Calls Tryz.prog 125 #[.string s,.string old,.string new] w fun e w'=>
  e= .returned (.string ⟨(Lib.replaceAll s.data.toList old.data.toList new.data.toList).toArray⟩)∧Below w.heap.size w w':=Any.strings_ReplaceAll Tryz.lays155 Tryz.Builder_Extra_155 s old new m w hs hm h1 hlen
def Tryz.lays264_ren:Go.Shelf.Ren:=⟨fun|264=>203|n=>n,fun|53=>163|46=>123|n=>n,fun|n=>n⟩
theorem Tryz.lays264:Go.Proofs.Lays.n264 Tryz.prog Tryz.lays264_ren:={
 mixed:=by kernel_rfl
 f264:=Tryz.func203.trans (congrArg some (by kernel_rfl))
 t46:=Tryz.underlying123
 a46:=Tryz.isAgg123
 z46:=Tryz.sizeOf123
 v46:=Tryz.zeroValue123
 t53:=Tryz.underlying163
 a53:=Tryz.isAgg163
 z53:=Tryz.sizeOf163
 v53:=Tryz.zeroValue163}
open Go.RowKit Go.Lib in
theorem Tryz.bits_Mul64(x y:Nat)(hx:x<18446744073709551616)(hy:y<18446744073709551616)(w:World):
 Calls Tryz.prog 203 #[.int .u64 x,.int .u64 y] w fun e w'=>e= .returned (.tuple #[.int .u64 ((x*y/18446744073709551616:Nat):Int),.int .u64 ((x*y%18446744073709551616:Nat):Int)])∧w'=w:=Any.bits_Mul64 Tryz.lays264 x y hx hy w
end Go.Proofs
namespace Go.Via
open Go Go.RowKit
theorem pcall_of{P:Program}{f:Nat}{args:Array Value}{v:Value}(hp:plainF P f=true)(h:∀w,Calls P f args w fun e w'=>e= .returned v∧w'=w):PCall P f args v:=
 ⟨hp,fun w=>(h w).mono (by rintro e w' ⟨h1,rfl⟩;exact⟨h1,Below.refl _ _⟩)⟩
theorem bitLen_bounds{x:Nat}(h:x<2^64)(h0:x≠0):1≤Lib.bitLen x∧2^(Lib.bitLen x-1)≤x∧x<2^Lib.bitLen x:=Lib.bitLenAux_bounds 64 x h h0
theorem bitLen_nb{x:Nat}(h:x<18446744073709551616)(h0:x≠0):(Lib.bitLen x+7)/8=nb x:=by
 obtain⟨h1,h2,h3⟩:=bitLen_bounds (by omega) h0
 generalize hb:Lib.bitLen x=b at*
 have e1:nb x≤(b+7)/8:=nb_le (by
 have:(256:Nat)^((b+7)/8)=2^(8*((b+7)/8)):=by rw[Nat.pow_mul]
 rw[this]
 exact Nat.lt_of_lt_of_le h3 (Nat.pow_le_pow_right (by omega) (by omega)))
 have e2:(b+7)/8≤nb x:=by
  have:(b-1)/8<nb x:=le_of_pow_le (by omega) (by
 have:(256:Nat)^((b-1)/8)=2^(8*((b-1)/8)):=by rw[Nat.pow_mul]
 rw[this]
 exact Nat.le_trans (Nat.pow_le_pow_right (by omega) (by omega)) h2)
  omega
 omega
theorem compareBytes_val:∀(a b:List Nat),a.length=b.length→(∀d∈a,d<256)→(∀d∈b,d<256)→
 Lib.compareBytes (a.reverse.map UInt8.ofNat) (b.reverse.map UInt8.ofNat)=if val 256 a<val 256 b then-1 else if val 256 b<val 256 a then 1 else 0:=by
 have key:∀(a b:List UInt8),a.length=b.length→Lib.compareBytes a b=if natL a<natL b then-1 else if natL b<natL a then 1 else 0:=by
  intro a
  induction a with
  |nil=>intro b h;cases b with
   |nil=>simp[Lib.compareBytes]
   |cons y b=>simp at h
  |cons x a ih=>
   intro b h
   cases b with
   |nil=>simp at h
   |cons y b=>
    have hl:a.length=b.length:=by simpa using h
    have ea:natL (x::a)=natL a+256^a.length*x.toNat:=by
     unfold natL;rw[List.reverse_cons,List.map_append,val_append];simp[val]
    have eb:natL (y::b)=natL b+256^a.length*y.toNat:=by
     unfold natL;rw[List.reverse_cons,List.map_append,val_append];simp[val,hl]
    have la:natL a<256^a.length:=by
     have:=val_lt (B:=256) (by omega) (bytes_lt a);simpa[natL] using this
    have lb:natL b<256^a.length:=by
     have:=val_lt (B:=256) (by omega) (bytes_lt b);rw[hl];simpa[natL] using this
    have hx:∀{p q r s M:Nat},p<M→q<M→r<s→p+M*r<q+M*s:=by
     intro p q r s M h1 h2 h3
     have:M*(r+1)≤M*s:=Nat.mul_le_mul_left M h3
     rw[Nat.mul_add] at this;omega
    rw[Lib.compareBytes,ea,eb]
    by_cases h1:x<y
    ·have:=hx la lb (UInt8.lt_iff_toNat_lt.1 h1)
     rw[if_pos h1,if_pos this]
    ·by_cases h2:y<x
     ·have:=hx lb la (UInt8.lt_iff_toNat_lt.1 h2)
      rw[if_neg h1,if_pos h2,if_neg (by omega),if_pos this]
     ·have e:x=y:=by
       apply UInt8.toNat_inj.1
       have:=mt UInt8.lt_iff_toNat_lt.2 h1;have:=mt UInt8.lt_iff_toNat_lt.2 h2;omega
      subst e
      rw[if_neg h1,if_neg h2,ih b hl]
      simp only[Nat.add_lt_add_iff_right]
 intro a b hl ha hb
 rw[key _ _ (by simp[hl])]
 unfold natL
 simp only[List.map_reverse,List.reverse_reverse]
 rw[map_toNat_ofNat ha,map_toNat_ofNat hb]
theorem compare_mag{m n:Nat}(h:nb m=nb n):Lib.compareBytes (mag m).data.toList (mag n).data.toList=if m<n then-1 else if n<m then 1 else 0:=by
 rw[mag_list,mag_list]
 have:=compareBytes_val (digs 256 m) (digs 256 n) h (digs_lt (by omega)) (digs_lt (by omega))
 rw[val_digs (by omega),val_digs (by omega)] at this
 exact this
end Go.Via
namespace Go.Proofs.YtfijbadahkmhbaaGreatDoor
open Go Go.RowKit Go.Via
theorem c_math_bits_Len64(x:Nat)(h:x<18446744073709551616):PCall Tryz.prog 121 #[.int .u64 x] (.int .i64 (Lib.bitLen x:Nat)):=
 pcall_of (by kernel_rfl) fun w=>by have:=Tryz.bits_Len64 x w (by omega) (by omega);simpa using this
theorem c_math_bits_LeadingZeros32(x:Nat)(h:x<4294967296):PCall Tryz.prog 163 #[.int .u32 x] (.int .i64 (32-(Lib.bitLen x:Int))):=
 pcall_of (by kernel_rfl) fun w=>by have:=Tryz.bits_LeadingZeros32 x w (by omega) (by omega);simpa using this
theorem c_math_bits_Mul64(x y:Nat)(hx:x<18446744073709551616)(hy:y<18446744073709551616):PCall Tryz.prog 203 #[.int .u64 x,.int .u64 y] (.tuple #[.int .u64 ((x*y/18446744073709551616:Nat):Int),.int .u64 ((x*y%18446744073709551616:Nat):Int)]):=
 pcall_of (by kernel_rfl) fun w=>Tryz.bits_Mul64 x y hx hy w
theorem c_strings_Compare(a b:ByteArray):PCall Tryz.prog 161 #[.string a,.string b] (.int .i64 (Lib.compareBytes a.data.toList b.data.toList)):=
 pcall_of (by kernel_rfl) fun w=>Tryz.strings_Compare a b w
theorem r_add64{bl:List Nat}{ops:Array Oper}{K:St→Prop}{rest:List Oper}{nt:Nat}{t:List (Nat×Value)}{L:List Blk}{d:Nat}{ty:TypeId}{pos:String}{af:Array Edge}{g:Option (Nat×Bool)}{x y z:Operand}{ts:Array TypeId}(m n:Nat)(hd:Nat.blt d nt=true)(hg:wantedS ops ⟨some d,.call {callee:= .value (.func 202),args:= #[x,y,z],argTypes:=ts},ty,pos,af,g⟩ t=some true)
 (hx:ev t x=some (.int .u64 (m:Int)))(hy:ev t y=some (.int .u64 (n:Int)))(hz:ev t z=some (.int .u64 0))(h:Run Tryz.prog bl ops rest ⟨nt,(d,.tuple #[.int .u64 (((m+n)%18446744073709551616:Nat):Int),.int .u64 (((m+n)/18446744073709551616:Nat):Int)])::t,L⟩ K):
 Run Tryz.prog bl ops (⟨some d,.call {callee:= .value (.func 202),args:= #[x,y,z],argTypes:=ts},ty,pos,af,g⟩::rest) ⟨nt,t,L⟩ K:=
 run_qc hd hg rfl (fun B a w hrel=>by
 have h1:(callFunc 202 #[.int .u64 (m:Int),.int .u64 (n:Int),.int .u64 0]).run Tryz.prog w= .ok (.value (.tuple #[.int .u64 (((m+n)%18446744073709551616:Nat):Int),.int .u64 (((m+n)/18446744073709551616:Nat):Int)])) w:=by
  rw[run_callFunc_extern Tryz.func202 (by kernel_rfl) (by kernel_rfl) (by kernel_rfl) (e:=add64Entry) (by kernel_rfl),run_add64 m n 0 (by omega) (by omega) (by omega) (by omega)]
  simp only[Result.andThen]
  congr 5<;>omega
 have hv:(#[x,y,z]:Array Operand).map a.eval= #[.int .u64 (m:Int),.int .u64 (n:Int),.int .u64 0]:=by
  show(([x,y,z]:List Operand).toArray).map a.eval=_
  rw[List.map_toArray,List.map_cons,List.map_cons,List.map_cons,List.map_nil,hrel.ev hx,hrel.ev hy,hrel.ev hz]
 have hf:a.eval (.func 202)= .func (.func 202) #[] #[]:=rfl
 simp only[execOp,resolve,hf,hv,Deferred.ofValue,invoke,Sem.run_bind,Sem.run_pure,Result.andThen_ok]
 simpa using h1) h
end Go.Proofs.YtfijbadahkmhbaaGreatDoor
namespace Go.Via
open Go Go.RowKit
inductive NumV where
 |q (r:Rat)
 |raw (b1:Bool) (s1:ByteArray) (b2:Bool) (s2:ByteArray)
def NumV.cells:NumV→List Value
 | .q r=>[.bool (decide (r.num<0)),.string (mag r.num.natAbs),.bool false,.string (dm r)]
 | .raw b1 s1 b2 s2=>[.bool b1,.string s1,.bool b2,.string s2]
inductive XT where
 |mk (op:Int) (name:List UInt8) (num:NumV) (args:List XT)
def XT.op:XT→Int| .mk o _ _ _=>o
def XT.name:XT→List UInt8| .mk _ n _ _=>n
def XT.num:XT→NumV| .mk _ _ n _=>n
def XT.args:XT→List XT| .mk _ _ _ l=>l
def xcells(op:Int)(name:List UInt8)(num:NumV)(a:Option Addr)(n cap:Nat):List Value:= .int .i64 op:: .string (strU name)::num.cells++[.slice a n cap]
mutual
inductive RepX(T:Tab):XT→List Value→Prop
 |mk {op:Int} {name:List UInt8} {num:NumV} {args:List XT} {a:Option Addr} {cap:Nat} (h:RepL T args a) (hc:args.length≤cap):
  RepX T (.mk op name num args) (xcells op name num a args.length cap)
inductive RepL(T:Tab):List XT→Option Addr→Prop
 |nil {a:Option Addr}:RepL T [] a
 |cons {x:XT} {l:List XT} {g off:Nat} {cs c:List Value} (hm:(g,cs)∈T) (hc:(cs.drop off).take 7=c) (hx:RepX T x c) (hl:RepL T l (some ⟨g,off+7,none⟩)):RepL T (x::l) (some ⟨g,off,none⟩)
end
mutual
theorem RepX.mono{T U:Tab}(hs:∀p∈T,p∈U):∀{x:XT} {c:List Value},RepX T x c→RepX U x c
 |_,_,.mk h hc=> .mk (RepL.mono hs h) hc
theorem RepL.mono{T U:Tab}(hs:∀p∈T,p∈U):∀{l:List XT} {a:Option Addr},RepL T l a→RepL U l a
 |_,_,.nil=> .nil
 |_,_,.cons hm hc hx hl=> .cons (hs _ hm) hc (RepX.mono hs hx) (RepL.mono hs hl)
end
theorem xcells_length{op:Int}{name:List UInt8}{num:NumV}{a:Option Addr}{n cap:Nat}:(xcells op name num a n cap).length=7:=by cases num<;>rfl
theorem xcells_simple{op:Int}{name:List UInt8}{num:NumV}{a:Option Addr}{n cap:Nat}:(xcells op name num a n cap).all Value.simpleT=true:=by cases num<;>rfl
theorem RepX.length{T:Tab}{x:XT}{c:List Value}(h:RepX T x c):c.length=7:=by cases h;exact xcells_length
theorem RepX.simple{T:Tab}{x:XT}{c:List Value}(h:RepX T x c):c.all Value.simpleT=true:=by cases h;exact xcells_simple
theorem RepL.get{T:Tab}:∀{l:List XT} {a:Option Addr} {i:Nat} {x:XT},RepL T l a→l[i]? =some x→∃g off cs c,a=some ⟨g,off,none⟩∧(g,cs)∈T∧(cs.drop (off+i*7)).take 7=c∧RepX T x c
 |[],_,i,x,_,hx=>by simp at hx
 |y::l,_,0,x,.cons hm hc hy hl,hx=>by
  simp at hx
  subst hx
  exact⟨_,_,_,_,rfl,hm,by rw[Nat.zero_mul,Nat.add_zero];exact hc,hy⟩
 |y::l,_,i+1,x,.cons hm hc hy hl,hx=>by
  rw[List.getElem?_cons_succ] at hx
  obtain⟨g,off,cs,c,h1,h2,h3,h4⟩:=RepL.get hl hx
  simp only[Option.some.injEq,Addr.mk.injEq,and_true] at h1
  obtain⟨rfl,rfl⟩:=h1
  exact⟨_,_,cs,c,rfl,h2,by rw[←h3,Nat.succ_mul];congr 2;omega,h4⟩
mutual
def XT.size:XT→Nat
 | .mk _ _ _ l=>1+XT.sizes l
def XT.sizes:List XT→Nat
 |[]=>0
 |x::l=>XT.size x+XT.sizes l
end
theorem XT.size_pos(x:XT):0<x.size:=by cases x;unfold XT.size;omega
theorem XT.sizes_get:∀{l:List XT} {i:Nat} {x:XT},l[i]? =some x→x.size≤XT.sizes l
 |[],i,x,h=>by simp at h
 |y::l,0,x,h=>by simp at h;subst h;unfold XT.sizes;omega
 |y::l,i+1,x,h=>by rw[List.getElem?_cons_succ] at h;have:=XT.sizes_get h;rw[XT.sizes];omega
theorem XT.arg_lt{x y:XT}{i:Nat}(h:x.args[i]? =some y):y.size<x.size:=by
 cases x with
 |mk o n a l=>
  have:=XT.sizes_get (l:=l) h
  rw[XT.size];omega
abbrev Bs8:=List UInt8
def isLet(c:UInt8):Bool:=(decide (65≤c.toNat)&&decide (c.toNat≤90))||(decide (97≤c.toNat)&&decide (c.toNat≤122))
def isDig(c:UInt8):Bool:=decide (48≤c.toNat)&&decide (c.toNat≤57)
def wch(c:UInt8):Bool:=isLet c||isDig c||c==95
def wordL:Bs8→Bool
 |[]=>false
 |c::l=>isLet c&&l.all wch
def zch(c:UInt8):Bool:=decide (32≤c.toNat)&&decide (c.toNat≤126)
def zoneL(l:Bs8):Bool:=l.all zch&&decide (1≤l.length)&&decide (l.length≤40)
def symL:Bs8:=[60,61,43,45,124,92,42,38,40,41,91,93,44]
def spL:Bs8:=[32,9,10]
def opsT:List (Bs8×Nat×Nat):=[([111,114],24,1),([97,110,100],23,2),([110,111,116],25,3),([60],21,4),([61],22,4),([43],18,5),([45],19,5),([124],7,5),([92],9,5),([42],20,6),([38],8,6),([100,117,114,105,110,103],12,7)]
def funT:List (Bs8×Nat×Nat):=[
 ([119,104,101,110],10,1),([100,101,102,105,110,101,100],11,1),([100,105,115,116,97,110,99,101,50],13,2),([115,112,101,101,100,50],14,1),([119,105,116,104,105,110],15,3),([105,110,115,105,100,101],16,2),([97,114,101,97,50],17,1),
 ([115,111,109,101,116,105,109,101],26,1),([97,108,119,97,121,115],27,1),([108,97,115,116,105,110,103],28,2),([115,104,105,102,116],29,2),([108,101,97,115,116],30,2)]
def baseR:List Bs8:=[[118,97,108,117,101],[111,98,106,101,99,116,115],[119,104,101,114,101],[112,97,105,114,115],[112,111,105,110,116],[111,98,106,101,99,116],[122,111,110,101]]
def resL:List Bs8:=baseR++opsT.map (·.1)++funT.map (·.1)
def nameL(l:Bs8):Bool:=decide (l.length≤40)&&wordL l&& !(resL.contains l)
def cntL(op:Int):Int:=
 if op=1∨op=3∨op=4∨op=5 then 0 else if op=25 then 1 else if op=2∨op=6 then 2 else
 match funT.find? (fun f=>decide ((f.2.1:Int)=op)) with
 |some f=>f.2.2
 |none=>match opsT.find? (fun o=>decide ((o.2.1:Int)=op)) with
  |some _=>2
  |none=> -1
structure Ps where
 s:Bs8
 pos:Nat
 k:Nat
 at_:Nat
 tx:Bs8
 bat:Nat
 be:Nat
 fail:Bool
def Ps.ok(p:Ps):Prop:=p.s.length≤4096∧p.pos≤p.s.length
def Ps.tok(p:Ps)(a k n:Nat):Ps:={p with pos:=a+n,k:=k,at_:=a,tx:=(p.s.drop a).take n}
def dgs(l:Bs8):Nat:=(l.takeWhile isDig).length
def numLen(l:Bs8):Nat:=
 match l.drop (dgs l) with
 |47::c::r=>if isDig c then dgs l+1+dgs (c::r) else dgs l
 |_=>dgs l
def quo:Bs8→Option (Bs8×Nat)
 |[]=>none
 |[c]=>if c=34 then some ([],0) else none
 |c::d::l=>if c=34 then(if d=34 then(quo l).map fun x=>(34::x.1,x.2+2) else some ([],0)) else(quo (d::l)).map fun x=>(c::x.1,x.2+1)
def Ps.quoted(p:Ps)(a:Nat):Ps:=
 match quo (p.s.drop (a+1)) with
 |some (n,k)=>if zoneL n then {p with pos:=a+k+2,k:=3,at_:=a,tx:=n} else {p with k:=5,at_:=a,tx:=[]}
 |none=>{p with k:=5,at_:=a,tx:=[]}
def Ps.skip(p:Ps):Nat:=p.pos+((p.s.drop p.pos).takeWhile spL.contains).length
def Ps.adv(p:Ps):Ps:=
 match p.s.drop p.skip with
 |[]=>{p with pos:=p.skip,k:=0,at_:=p.skip,tx:=[]}
 |c::r=>
  if isLet c then p.tok p.skip 1 ((c::r).takeWhile wch).length
  else if isDig c then p.tok p.skip 2 (numLen (c::r))
  else if c=34 then({p with pos:=p.skip}).quoted p.skip
  else if symL.contains c then p.tok p.skip 4 1
  else p.tok p.skip 5 0
def Ps.stop(p:Ps)(e:Nat):Ps:=if p.fail then p else {p with bat:=p.at_,be:=e,fail:=true}
def Ps.is(p:Ps)(x:Bs8):Bool:= !p.fail&&(p.k==1||p.k==4)&&p.tx==x
def Ps.want(p:Ps)(x:Bs8):Ps:=if p.is x then p.adv else p.stop 15
def Ps.name(p:Ps):Ps:=if p.fail||p.k !=1||resL.contains p.tx then p.stop 15 else if 40<p.tx.length then p.stop 34 else p.adv
def decN(l:Bs8):Nat:=l.foldl (fun n c=>n*10+(c.toNat-48)) 0
def ratTok(t:Bs8):Option Rat:=
 let a:=t.takeWhile isDig
 match t.drop a.length with
 |[]=>some (decN a:Rat)
 |_::b=>if decN b=0 then none else some (Rat.divInt (decN a) (decN b))
def idOK(q:Rat):Bool:=decide (q.den=1)&&decide (1≤q.num)&&decide (q.num≤1073741824)
def XT.node(op:Nat)(l:List XT):XT:= .mk op [] (.q 0) l
def XT.named(op:Nat)(n:Bs8):XT:= .mk op n (.q 0) []
def XT.numd(op:Nat)(q:Rat):XT:= .mk op [] (.q q) []
def Ps.number(p:Ps)(object:Bool):Rat×Ps:=
 if p.fail||p.k !=2 then(0,p.stop 15) else
 match ratTok p.tx with
 |none=>(0,p.stop 6)
 |some q=>if object&& !idOK q then(0,p.stop 27) else(q,p.adv)
def tMinus:Bs8:=[45]
def tOpen:Bs8:=[40]
def tShut:Bs8:=[41]
def tOpenB:Bs8:=[91]
def tShutB:Bs8:=[93]
def tComma:Bs8:=[44]
def tNot:Bs8:=[110,111,116]
def tPoint:Bs8:=[112,111,105,110,116]
def tObject:Bs8:=[111,98,106,101,99,116]
def tZone:Bs8:=[122,111,110,101]
def tWhere:Bs8:=[119,104,101,114,101]
def tValue:Bs8:=[118,97,108,117,101]
def tObjects:Bs8:=[111,98,106,101,99,116,115]
def tPairs:Bs8:=[112,97,105,114,115]
def Ps.signed(p:Ps):XT×Ps:=
 if p.is tMinus then(.numd 1 (-(p.adv.number false).1),(p.adv.number false).2) else(.numd 1 (p.number false).1,(p.number false).2)
def Ps.zone(p:Ps):XT×Ps:=
 let p1:=p.want tOpen
 (.named 5 p1.tx,(if p1.fail||p1.k !=3 then p1.stop 15 else p1.adv).want tShut)
def Ps.pointX(p:Ps):XT×Ps:=
 let a:=(p.want tOpen).signed
 let b:=(a.2.want tComma).signed
 (.node 2 [a.1,b.1],b.2.want tShut)
def Ps.objectX(p:Ps):XT×Ps:=
 let a:=(p.want tOpen).number true
 (.numd 3 a.1,a.2.want tShut)
def opAt(n:Nat)(p:Ps):Option Nat:=(opsT.find? fun o=>o.2.2==n&&p.is o.1).map (·.2.1)
def funAt(p:Ps):Option (Nat×Nat):=(funT.find? fun o=>p.is o.1).map (·.2)
mutual
def lev:Nat→Nat→Ps→Option (XT×Ps)
 |0,_,_=>none
 |f+1,n,p=>
  if n=3 then
   if p.is tNot then(lev f 3 p.adv).map fun r=>(.node 25 [r.1],r.2) else lev f 4 p
  else if n=8 then prim f p
  else(lev f (n+1) p).bind fun r=>levs f n r.1 r.2
def levs:Nat→Nat→XT→Ps→Option (XT×Ps)
 |0,_,_,_=>none
 |f+1,n,x,p=>
  if p.fail then some (x,p) else
  match opAt n p with
  |none=>some (x,p)
  |some op=>(lev f (n+1) p.adv).bind fun r=>if n=4 then some (.node op [x,r.1],r.2) else levs f n (.node op [x,r.1]) r.2
def prim:Nat→Ps→Option (XT×Ps)
 |0,_=>none
 |f+1,p=>
  if p.fail then some (.node 0 [],p)
  else if p.k==2||p.is tMinus then some p.signed
  else if p.is tOpen then(lev f 1 p.adv).map fun r=>(r.1,r.2.want tShut)
  else if p.is tOpenB then argL f 6 tShutB 2 0 [] p.adv
  else if p.is tPoint then some p.adv.pointX
  else if p.is tObject then some p.adv.objectX
  else if p.is tZone then some p.adv.zone
  else match funAt p with
   |some (op,n)=>argL f op tShut n 0 [] (p.adv.want tOpen)
   |none=>some (.named 4 p.tx,p.name)
def argL:Nat→Nat→Bs8→Nat→Nat→List XT→Ps→Option (XT×Ps)
 |0,_,_,_,_,_,_=>none
 |f+1,op,e,n,i,l,p=>
  if i<n then
   let p1:=if 0<i then p.want tComma else p
   if p1.fail then some (.node op l,p1.want e)
   else(lev f 1 p1).bind fun r=>argL f op e n (i+1) (l++[r.1]) r.2
  else some (.node op l,p.want e)
end
end Go.Via
namespace Go.Via
open Go
def frmT:List (Nat×Nat×Nat×Bs8):=[
 (24,2,1,[111,114]),(23,2,2,[97,110,100]),(25,1,3,[110,111,116]),(21,2,4,[60]),(22,2,4,[61]),
 (18,2,5,[43]),(19,2,5,[45]),(7,2,5,[124]),(9,2,5,[92]),
 (20,2,6,[42]),(8,2,6,[38]),(12,2,7,[100,117,114,105,110,103]),
 (10,1,0,[119,104,101,110]),(11,1,0,[100,101,102,105,110,101,100]),(13,2,0,[100,105,115,116,97,110,99,101,50]),(14,1,0,[115,112,101,101,100,50]),(15,3,0,[119,105,116,104,105,110]),(16,2,0,[105,110,115,105,100,101]),(17,1,0,[97,114,101,97,50]),
 (26,1,0,[115,111,109,101,116,105,109,101]),(27,1,0,[97,108,119,97,121,115]),(28,2,0,[108,97,115,116,105,110,103]),(29,2,0,[115,104,105,102,116]),(30,2,0,[108,101,97,115,116]),
 (1,0,8,[]),(2,2,8,[112,111,105,110,116]),(3,0,8,[111,98,106,101,99,116]),(4,0,8,[]),(5,0,8,[122,111,110,101]),(6,2,8,[])]
def mresL:List Bs8:=[[118,97,108,117,101],[111,98,106,101,99,116,115],[112,97,105,114,115],[119,104,101,114,101]]++frmT.map (·.2.2.2)
def mnameL(l:Bs8):Bool:=wordL l&&decide (l.length≤40)&& !(mresL.contains l)
theorem res_same{l:Bs8}(h:l≠[]):mresL.contains l=resL.contains l:=by
 have h1:(resL.all fun x=>mresL.contains x)=true:=by decide+kernel
 have h2:(mresL.all fun x=>x==[]||resL.contains x)=true:=by decide+kernel
 rw[Bool.eq_iff_iff,List.contains_iff_mem,List.contains_iff_mem]
 constructor
 ·intro hm
  have:=List.all_eq_true.1 h2 l hm
  simp only[Bool.or_eq_true,beq_iff_eq,List.contains_iff_mem] at this
  exact this.resolve_left h
 ·intro hm
  have:=List.all_eq_true.1 h1 l hm
  simpa only[List.contains_iff_mem] using this
theorem name_same(l:Bs8):nameL l=mnameL l:=by
 unfold nameL mnameL
 cases l with
 |nil=>rfl
 |cons c l=>
  rw[res_same (List.cons_ne_nil _ _),Bool.and_comm (decide _) (wordL _)]
theorem or_get(a b:Int)(i:Nat)(h:i<2):([.int .i64 a,.int .i64 b]:List Value)[i]? =some (.int .i64 (if i=0 then a else b)):=by
 have:i=0∨i=1:=by omega
 rcases this with rfl|rfl<;>rfl
theorem or_a(a b:Int)(i:Nat)(ha:0<i→a=0)(he:(if i=0 then a else b)=0):0<i+1→a=0:=fun _=>by
 by_cases h:i=0
 ·rwa [if_pos h] at he
 ·exact ha (by omega)
theorem or_b(a b:Int)(i:Nat)(he:(if i=0 then a else b)=0):1<i+1→b=0:=fun h=>by
 rwa [if_neg (by omega)] at he
theorem or_end1(a b:Int)(i:Nat)(ha:0<i→a=0)(hne:(if i=0 then a else b)≠0):(if i=0 then a else b)=(if a=0 then b else a):=by
 by_cases h:i=0
 ·rw[if_pos h] at hne ⊢;rw[if_neg hne]
 ·rw[if_neg h] at hne ⊢;rw[if_pos (ha (by omega))]
theorem nb_lt{m n:Nat}(h:nb m<nb n):m<n:=canon_lt_of_length (by omega) h
theorem compare_all(m n:Nat):(if(if(nb m:Int)<(nb n:Int) then(-1:Int) else if(nb n:Int)<(nb m:Int) then 1 else 0)=0 then Lib.compareBytes (mag m).data.toList (mag n).data.toList
 else(if(nb m:Int)<(nb n:Int) then(-1:Int) else if(nb n:Int)<(nb m:Int) then 1 else 0))=cmpN m n:=by
 unfold cmpN
 rcases Nat.lt_trichotomy (nb m) (nb n) with h|h|h
 ·have:=nb_lt h
  rw[if_pos (by omega:(nb m:Int)<nb n),if_neg (by decide),if_pos this]
 ·rw[if_neg (by omega:¬(nb m:Int)<nb n),if_neg (by omega:¬(nb n:Int)<nb m),if_pos rfl,compare_mag h]
 ·have:=nb_lt h
  rw[if_neg (by omega:¬(nb m:Int)<nb n),if_pos (by omega:(nb n:Int)<nb m),if_neg (by decide),if_neg (by omega),if_pos this]
theorem cmpN_neg(m n:Nat):IntKind.i64.wrap (0-cmpN m n)= -cmpN m n:=by
 unfold cmpN;split<;>(try split)<;>rfl
theorem sign_nn{b:Int}(h:¬b<0):0≤b.sign:=by
 rcases Int.lt_trichotomy b 0 with h1|h1|h1
 ·exact absurd h1 h
 ·subst h1;decide
 ·rw[Int.sign_eq_one_of_pos h1];decide
theorem sign_neg'{a:Int}(h:a<0):a.sign= -1:=Int.sign_eq_neg_one_of_neg h
theorem cmpI_T{a b:Int}(h:(decide (a<0) !=decide (b<0))=true):(if a.sign<b.sign then(-1:Int) else if b.sign<a.sign then 1 else 0)=cmpI a b:=by
 unfold cmpI
 by_cases ha:a<0<;>by_cases hb:b<0
 ·simp[ha,hb] at h
 ·have h1:=sign_neg' ha
  have h2:0≤b.sign:=sign_nn (by omega)
  rw[if_pos (by omega),if_pos (by omega)]
 ·have h1:=sign_neg' hb
  have h2:0≤a.sign:=sign_nn (by omega)
  rw[if_neg (by omega),if_pos (by omega),if_neg (by omega),if_pos (by omega)]
 ·simp[ha,hb] at h
theorem cmpI_FT{a b:Int}(h:(decide (a<0) !=decide (b<0))=false)(h2:decide (a<0)=true): -cmpN a.natAbs b.natAbs=cmpI a b:=by
 have ha:=of_decide_eq_true h2
 have hb:b<0:=by simpa[ha] using h
 unfold cmpN cmpI
 by_cases c1:a<b
 ·rw[if_pos c1,if_neg (by omega),if_pos (by omega)]
 ·rw[if_neg c1]
  by_cases c2:b<a
  ·rw[if_pos c2,if_pos (by omega)];rfl
  ·rw[if_neg c2,if_neg (by omega),if_neg (by omega)];rfl
theorem cmpI_FF{a b:Int}(h:(decide (a<0) !=decide (b<0))=false)(h2:decide (a<0)=false):cmpN a.natAbs b.natAbs=cmpI a b:=by
 have ha:=of_decide_eq_false h2
 have hb:¬b<0:=by simpa[ha] using h
 unfold cmpN cmpI
 by_cases c1:a<b
 ·rw[if_pos c1,if_pos (by omega)]
 ·rw[if_neg c1,if_neg (show¬a.natAbs<b.natAbs by omega)]
  by_cases c2:b<a
  ·rw[if_pos c2,if_pos (by omega)]
  ·rw[if_neg c2,if_neg (by omega)]
theorem fromInt_T(z:Int)(h:decide (z<0)=true):(if decide (z<0)=true then-(z.natAbs:Int) else(z.natAbs:Int))=z:=by
 rw[if_pos h];have:=of_decide_eq_true h;omega
theorem fromInt_F(z:Int)(h:decide (z<0)=false):(if decide (z<0)=true then-(z.natAbs:Int) else(z.natAbs:Int))=z:=by
 rw[if_neg (by rw[h];decide)];have:=of_decide_eq_false h;omega
theorem pos_cons{l:List UInt8}(h:0<l.length):∃x r,l=x::r:=by cases l with
 |nil=>simp at h
 |cons x r=>exact⟨x,r,rfl⟩
theorem strU_tail(x:UInt8)(r:List UInt8):(strU (x::r)).extract (1:Int).toNat (strU (x::r)).size=strU r:=by
 rw[strU_size]
 show ByteArray.extract _ 1 _=_
 apply ByteArray.ext
 rw[ByteArray.data_extract]
 simp[strU]
theorem strU_empty{l:List UInt8}(h:(strU l==⟨#[]⟩)=true):l=[]:=by
 rw[beq_ba] at h
 simpa[strU] using h
def run8(f:UInt8→Bool)(s:Bs8)(i:Nat):Nat:=i+((s.drop i).takeWhile f).length
theorem run8_go{f:UInt8→Bool}{s:Bs8}{i:Nat}{c:UInt8}(h:s[i]? =some c)(hf:f c=true):run8 f s i=run8 f s (i+1):=by
 obtain⟨hl,rfl⟩:=List.getElem?_eq_some_iff.1 h
 unfold run8
 rw[List.drop_eq_getElem_cons hl,List.takeWhile_cons_of_pos hf,List.length_cons]
 omega
theorem run8_stop{f:UInt8→Bool}{s:Bs8}{i:Nat}{c:UInt8}(h:s[i]? =some c)(hf:f c=false):run8 f s i=i:=by
 obtain⟨hl,rfl⟩:=List.getElem?_eq_some_iff.1 h
 unfold run8
 rw[List.drop_eq_getElem_cons hl,List.takeWhile_cons_of_neg (by rw[hf];simp)]
 rfl
theorem run8_end{f:UInt8→Bool}{s:Bs8}:run8 f s s.length=s.length:=by
 unfold run8
 rw[List.drop_length];rfl
theorem run8_le{f:UInt8→Bool}{s:Bs8}{i:Nat}(h:i≤s.length):run8 f s i≤s.length:=by
 unfold run8
 have h1:=(List.takeWhile_sublist f (l:=s.drop i)).length_le
 rw[List.length_drop] at h1
 omega
theorem run8_ge{f:UInt8→Bool}{s:Bs8}{i:Nat}:i≤run8 f s i:=by unfold run8;omega
theorem skip_run8(p:Ps):p.skip=run8 spL.contains p.s p.pos:=rfl
def wordAt(l:Bs8)(i:Nat):Bool:=if i=0 then wordL l else(l.drop i).all wch
theorem wordAt_go{l:Bs8}{i:Nat}{c:UInt8}(h:l[i]? =some c)(hc:isLet c=true∨(i≠0∧(isDig c=true∨c=95))):wordAt l i=wordAt l (i+1):=by
 obtain⟨hl,rfl⟩:=List.getElem?_eq_some_iff.1 h
 have hw:wch l[i]=true:=by
  unfold wch
  rcases hc with h|⟨_,h|h⟩<;>simp[h]
 unfold wordAt
 rw[if_neg (Nat.succ_ne_zero i)]
 by_cases h0:i=0
 ·subst h0
  rw[if_pos rfl]
  rcases hc with h|⟨h,_⟩
  ·cases l with
   |nil=>simp at hl
   |cons x l=>simp at h;simp[wordL,h]
  ·exact absurd rfl h
 ·rw[if_neg h0,List.drop_eq_getElem_cons hl,List.all_cons,hw,Bool.true_and]
theorem wordAt_no{l:Bs8}{i:Nat}{c:UInt8}(h:l[i]? =some c)(h1:isLet c=false)(h2:i=0∨(isDig c=false∧c≠95)):wordAt l i=false:=by
 obtain⟨hl,rfl⟩:=List.getElem?_eq_some_iff.1 h
 unfold wordAt
 by_cases h0:i=0
 ·subst h0
  rw[if_pos rfl]
  cases l with
  |nil=>rfl
  |cons x l=>simp at h1;simp[wordL,h1]
 ·rw[if_neg h0,List.drop_eq_getElem_cons hl,List.all_cons]
  have h3:=h2.resolve_left h0
  have hw:wch l[i]=false:=by unfold wch;simp[h1,h3.1,h3.2]
  rw[hw,Bool.false_and]
theorem wordAt_end(l:Bs8):wordAt l l.length=(strU l !=⟨#[]⟩):=by
 unfold wordAt
 cases l with
 |nil=>rfl
 |cons x l=>
  rw[if_neg (by simp),List.drop_length]
  have h:(strU (x::l)==⟨#[]⟩)=false:=by
   rw[←Bool.not_eq_true]
   intro h
   have:=strU_empty h
   cases this
  rw[bne,h]
  rfl
theorem all_go{f:UInt8→Bool}{l:Bs8}{i:Nat}{c:UInt8}(h:l[i]? =some c):(l.drop i).all f=(f c&&(l.drop (i+1)).all f):=by
 obtain⟨hl,rfl⟩:=List.getElem?_eq_some_iff.1 h
 rw[List.drop_eq_getElem_cons hl,List.all_cons]
def Ps.cells(p:Ps):List Value:=[.string (strU p.s),.int .i64 (p.pos:Nat),.int .i64 (p.k:Nat),.int .i64 (p.at_:Nat),.string (strU p.tx),.int .i64 (p.bat:Nat),.int .i64 (p.be:Nat),.bool p.fail]
abbrev PB(g:Nat)(p:Ps)(own:Bool):Blk:=⟨some g,141,p.cells,8,own⟩
theorem strU_inj{a b:Bs8}(h:strU a=strU b):a=b:=by
 have:=congrArg (fun s:ByteArray=>s.data.toList) h
 simpa[strU] using this
theorem strU_beq(a b:Bs8):(strU a==strU b)=(a==b):=by
 by_cases h:a=b
 ·subst h
  rw[bb_self,beq_self_eq_true]
 ·rw[bb_ne (fun e=>h (strU_inj e)),beq_false_of_ne h]
theorem idxB_ge(c:UInt8):∀l:Bs8,(decide (0≤Lib.indexByte l c))=l.contains c
 |[]=>rfl
 |b::l=>by
  have ih:=idxB_ge c l
  rw[List.contains_cons]
  unfold Lib.indexByte
  by_cases h:b=c
  ·subst h;simp
  ·have h1:(b==c)=false:=by simpa using h
   have h2:(c==b)=false:=by simpa using fun e=>h e.symm
   rw[h1,h2,Bool.false_or,←ih]
   have:=Lib.indexByte_ge l c
   simp only[Bool.false_eq_true,if_false]
   by_cases h3:Lib.indexByte l c= -1
   ·simp[h3]
   ·rw[if_neg (by simpa using h3)]
    simp only[decide_eq_decide]
    omega
end Go.Via
namespace Go.Proofs.YtfijbadahkmhbaaGreatDoor
open Go Go.RowKit Go.Via
theorem c_lite_IndexByte(l:Bs8)(c:UInt8):PCall Tryz.prog 155 #[.string (strU l),.int .u8 (c.toNat:Nat)] (.int .i64 (Lib.indexByte l c)):=
 pcall_of (by kernel_rfl) fun w=>by
  have:=Tryz.stringslite_IndexByte (strU l) (c.toNat:Nat) w
  simpa[strU] using this
theorem c_strings_CutPrefix1(l:Bs8)(c:UInt8):PCall Tryz.prog 171 #[.string (strU l),.string (strU [c])] (.tuple #[.string (strU (Lib.trimPrefix l [c])),.bool (Lib.hasPrefix l [c])]):=
 pcall_of (by kernel_rfl) fun w=>by
  have:=Tryz.strings_CutPrefix (strU l) (strU [c]) w
  simpa[strU] using this
theorem c_integer_word(n:Nat):PCall Tryz.prog 145 #[.string (mag n)] (.tuple #[.int .u64 (if nb n≤8 then(n:Int) else 0),.bool (decide (nb n≤8))]):=by
 refine⟨by kernel_rfl,fun w=>?_⟩;refine cB1 23 Tryz.func145 (LRel.nil w) ?_;refine A11 ?_;refine r_know 7 (.int .i64 (nb n:Nat)) rfl (by rw[mag_size]) ?_;refine A3 ?_;refine Cd ?_ ?_<;>intro hb0
 ·have h8:¬nb n≤8:=(by have:=of_decide_eq_true hb0;omega);refine A8 ?_;refine at_end2 rfl (res_tmp rfl) (res_tmp rfl) (fun w hL=>⟨?_,hL.below⟩);rw[if_neg h8,decide_eq_false h8]
 ·have h8:nb n≤8:=(by have:=of_decide_eq_false hb0;omega);refine A12 ?_;refine r_know 10 (.int .i64 (nb n:Nat)) rfl (by rw[mag_size]) ?_;refine A4 ?_;refine El (ι:={i:Nat // i≤nb n}) (fun⟨i,hi⟩=>([(0,.string (mag n)),(4,.int .u64 (n/256^(nb n-i):Nat)),(10,.int .i64 (nb n:Nat)),(11,.int .i64 (i:Nat))],[],nb n-i)) ⟨0,Nat.zero_le _⟩ ?_ (ht:=⟨rfl,(look_val rfl (word_zero n)),rfl,rfl,trivial⟩);rintro⟨i,hi⟩;(try dsimp only);refine A6 ?_;refine Cd ?_ ?_<;>intro hb2
  ·have hlt:i<nb n:=(by have:=of_decide_eq_true hb2;omega);refine A12 ?_;refine r_shift (r:=((n/256^(nb n-i)*2^8:Nat):Int)) rfl rfl rfl rfl (by omega) (congrArg some (shl_u _ 8 rfl rfl (by omega) (word_shl n i hi hlt h8))) ?_;refine A2 ?_;refine r_idxS (r:=((n/256^(nb n-1-i)%256:Nat):Int)) u9 rfl rfl rfl rfl (by omega) (mag_at n i hlt) (u8_nat _) ?_;refine r_conv (r:=((n/256^(nb n-1-i)%256:Nat):Int)) u5 u163 rfl rfl rfl (c64 _ rfl (by omega)) ?_;refine r_or (r:=((n/256^(nb n-(i+1)):Nat):Int)) rfl rfl rfl rfl (word_or n i hi hlt h8) ?_;refine A5 ?_;refine Ar (((i+1:Nat):Int)) ?_;refine A3 ?_;exact Nl ⟨i+1,hlt⟩
  ·have hge:i=nb n:=(by have:=of_decide_eq_false hb2;omega);refine A13 ?_;refine at_end2 rfl (res_tmp rfl) (res_tmp rfl) (fun w hL=>⟨?_,hL.below⟩);subst hge;rw[if_pos h8,decide_eq_true h8];simp
theorem c_integer_words(m n:Nat):PCall Tryz.prog 143 #[.string (mag m),.string (mag n)] (.tuple #[.int .u64 (if nb m≤8 then(m:Int) else 0),.int .u64 (if nb n≤8 then(n:Int) else 0),.bool (decide (nb m≤8)&&decide (nb n≤8))]):=by
 refine⟨by kernel_rfl,fun w=>?_⟩;refine cB2 24 Tryz.func143 (LRel.nil w) ?_;refine A10 ?_;refine Pc (c_integer_word _) ?_;refine A10 ?_;refine Pc (c_integer_word _) ?_;refine A13 ?_;refine Rs 21 ?_ ?_<;>intro hb0
 ·refine A8 ?_;refine at_end3 rfl (res_tmp rfl) (res_tmp rfl) (res_tmp rfl) (fun w hL=>⟨?_,hL.below⟩);rw[hb0];rfl
 ·refine A8 ?_;refine at_end3 rfl (res_tmp rfl) (res_tmp rfl) (res_tmp rfl) (fun w hL=>⟨?_,hL.below⟩);rw[hb0];rfl
theorem c_cmp_isNaN(x:Int):PCall Tryz.prog 159 #[.int .i64 x] (.bool false):=by
 refine⟨by kernel_rfl,fun w=>?_⟩;refine cB1 6 Tryz.func159 (LRel.nil w) ?_;refine A14 ?_;refine E1 fun w hL=>⟨?_,hL.below⟩;rw[bne_self_eq_false]
theorem c_cmp_Compare(x y:Int):PCall Tryz.prog 140 #[.int .i64 x,.int .i64 y] (.int .i64 (if x<y then-1 else if y<x then 1 else 0)):=by
 refine⟨by kernel_rfl,fun w=>?_⟩;refine cB2 20 Tryz.func140 (LRel.nil w) ?_;refine A8 ?_;refine Pc (c_cmp_isNaN _) ?_;refine A6 ?_;refine Pc (c_cmp_isNaN _) ?_;refine A29 ?_;refine Cd ?_ ?_<;>intro hb0
 ·refine A7 ?_;refine E1 fun w hL=>⟨?_,hL.below⟩;rw[if_pos (of_decide_eq_true hb0)]
 ·refine A10 ?_;refine Cd ?_ ?_<;>intro hb1
  ·refine A7 ?_;refine E1 fun w hL=>⟨?_,hL.below⟩;rw[if_neg (of_decide_eq_false hb0),if_pos (of_decide_eq_true hb1)]
  ·refine A8 ?_;refine E1 fun w hL=>⟨?_,hL.below⟩;rw[if_neg (of_decide_eq_false hb0),if_neg (of_decide_eq_false hb1)]
theorem c_integer_magnitude(n:Nat)(h:n<18446744073709551616):PCall Tryz.prog 139 #[.int .u64 (n:Nat)] (.string (mag n)):=by
 refine⟨by kernel_rfl,fun w=>?_⟩;refine cB1 30 Tryz.func139 (LRel.nil w) ?_;refine A12 ?_;refine Cd ?_ ?_<;>intro hb0
 ·have h0:n=0:=by have:=eq_of_beq hb0;omega
  refine A7 ?_;refine E1 fun w hL=>⟨?_,hL.below⟩;subst h0;rw[mag_zero]
 ·have h0:n≠0:=by have:=ne_of_beq_false hb0;omega
  have h8:=nb_le8 h;have hp:=nb_pos h0;refine A5 ?_;refine Pc (c_math_bits_Len64 _ h) ?_;refine r_arith (r:=((Lib.bitLen n+7:Nat):Int)) rfl rfl rfl rfl (congrArg some (wi (by omega) (by have:=Lib.bitLen_le n 64 (by omega) (by omega);omega) (by omega))) ?_;refine r_div (r:=((nb n:Nat):Int)) rfl rfl rfl rfl (by omega) (congrArg some ((quo_i _ 8 rfl rfl (by have:=Lib.bitLen_le n 64 (by omega) (by omega);omega)).trans (by rw[bitLen_nb h h0]))) ?_;refine A5 ?_;refine r_alloc [_,_,_,_,_,_,_,_] 8 (fun g=>[⟨some g,201,_,8,true⟩]) rfl rfl z201 rfl rfl (fun _=>rfl) (fun g0=>?_);refine A10 ?_;refine El (ι:={i:Nat // i≤nb n}) (fun⟨i,hi⟩=>([(0,.int .u64 (n:Nat)),(3,.int .i64 (nb n:Nat)),(4,.pointer (some ⟨g0,0,none⟩)),(12,.int .i64 (nb n:Nat)),(13,.int .i64 (i:Nat))],[⟨some g0,201,NV .u8 (row 8 (magT n i)),8,true⟩],nb n-i)) ⟨0,Nat.zero_le _⟩ ?_ (hL:=(weak_eq (congrArg (fun c=>[(⟨some g0,201,c,8,true⟩:Blk)]) (magT_zero n).symm)));rintro⟨i,hi⟩;(try dsimp only);refine A6 ?_;refine Cd ?_ ?_<;>intro hb2
  ·have hlt:i<nb n:=(by have:=of_decide_eq_true hb2;omega);refine A12 ?_;refine Ar (((nb n-1:Nat):Int)) ?_;refine A1 ?_;refine Ar (((nb n-1-i:Nat):Int)) ?_;refine A2 ?_;refine Ar (((8*i:Nat):Int)) ?_;refine r_shift (r:=((n/2^(8*i):Nat):Int)) rfl rfl rfl rfl (by omega) (congrArg some (shr_u _ _ rfl rfl (by omega))) ?_;refine r_conv (r:=((n/2^(8*i)%256:Nat):Int)) u163 u5 rfl rfl rfl (c8 _ rfl) ?_;refine r_indexAddrA (nb n-1-i) u201 ti5 rfl rfl rfl rfl (by omega) (by omega) (by show 0+Int.toNat _*1=_;omega) ?_;refine r_store1 rfl 0 (nb n-1-i) [⟨some g0,201,_,8,true⟩] (NV .u8 (row 8 (magT n (i+1)))) ti5 rfl rfl rfl rfl rfl rfl rfl rfl (by rw[NV_length,row_length];omega) (magT_step n i hlt) rfl ?_;refine A4 ?_;refine Ar (((i+1:Nat):Int)) ?_;refine A3 ?_;exact Nl ⟨i+1,hlt⟩
  ·have hge:i=nb n:=(by have:=of_decide_eq_false hb2;omega);subst hge;refine A8 ?_;refine r_sliceA (nb n) u201 ti5 rfl rfl rfl rfl (by omega) (by omega) (by omega) ?_;refine r_convBS 0 u125 u5 u9 rfl rfl rfl rfl rfl (magT_end n h8) (by rw[List.length_reverse];rfl) (strN_mag n) ?_;refine A4 ?_;refine E1 fun w hL=>⟨?_,hL.below⟩;exact rfl
end Go.Proofs.YtfijbadahkmhbaaGreatDoor
namespace Go.Via
open Go
theorem mag_at'(n i:Nat)(h:i<nb n):(mag n).data.toList[((nb n-1-i:Nat):Int).toNat]? =some (UInt8.ofNat (n/256^i%256)):=by
 have:=mag_at n (nb n-1-i) (by omega)
 rwa [show nb n-1-(nb n-1-i)=i by omega] at this
theorem digT_step'(n i j:Nat):digT n (i+1) j=if j=i/4 then digT n i (i/4)+2^(8*(i%4))*(n/256^i%256) else digT n i j:=by
 rw[digT_step];split
 ·rename_i e;rw[←e]
 ·rfl
theorem shr_u32{x s:Int}(m k:Nat)(hx:x=(m:Int))(hs:s=(k:Int))(hk:k≤32):x.fdiv (2^(min s.toNat IntKind.u32.bits))=((m/2^k:Nat):Int):=by
 subst hx;subst hs
 have:min (k:Int).toNat IntKind.u32.bits=k:=by rw[bits32];omega
 rw[this,Int.fdiv_eq_ediv_of_nonneg _ (Int.pow_nonneg (by omega))]
 simp
theorem trim_get{l:List Nat}{N M i:Nat}(hl:∀d∈l,d<B32)(hN:val B32 l=N)(hM:(digs B32 N).length=M)(hi:i<M):l[i]? =some (N/B32^i%B32):=by
 subst hN;subst hM
 have h1:=trim_take B32_two hl
 have h2:=digs_get (B:=B32) B32_two hi
 rw[←h1,List.getElem?_take] at h2
 rw[if_pos hi] at h2
 exact h2
theorem bytes_zero{l:List Nat}{N M:Nat}(hN:val B32 l=N)(hM:(digs B32 N).length=M)(h0:M=0):(⟨#[]⟩:ByteArray)=mag N:=by
 subst h0
 have:N=0:=(digs_eq_nil B32_two).1 (List.eq_nil_of_length_eq_zero hM)
 rw[this,mag_zero]
theorem bytes_lt4{N M:Nat}(hM:(digs B32 N).length=M):N<256^(4*M):=by
 rw[←B32_pow,←hM];exact lt_pow_digs B32_two N
end Go.Via
