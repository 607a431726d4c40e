/-
  Part 5 (chapter 43): lemmas, walks. Each theorem states its own conditions.
-/
import Derived.Test.YtfijbadahkmhbaaGreatDoorA01
import Derived.Test.YtfijbadahkmhbaaGreatDoorA04
set_option linter.unusedVariables false
set_option linter.unusedSimpArgs false
set_option maxRecDepth 20000
set_option maxHeartbeats 20000000
namespace Go.Via
open Go
theorem words_T{m n:Nat}(h:(decide (nb m≤8)&&decide (nb n≤8))=true):m<18446744073709551616∧n<18446744073709551616∧nb m≤8∧nb n≤8:=by
 simp only[Bool.and_eq_true,decide_eq_true_eq] at h
 have h1:=lt_of_nb_le h.1
 have h2:=lt_of_nb_le h.2
 exact⟨by omega,by omega,h.1,h.2⟩
def addS(X Y i:Nat):Nat:=(X%B32^i+Y%B32^i)/B32^i+X/B32^i%B32+Y/B32^i%B32
def addC(X Y i:Nat):Nat:=(X%B32^i+Y%B32^i)/B32^i
def addT(X Y i j:Nat):Nat:=if j<i then(X+Y)/B32^j%B32 else X/B32^j%B32
theorem B32_pos(i:Nat):0<B32^i:=Nat.pow_pos (by decide)
theorem B32_mod(n:Nat):n%B32<4294967296:=Nat.mod_lt _ (by decide)
theorem addC_le(X Y i:Nat):addC X Y i≤1:=by
 unfold addC
 have h1:=Nat.mod_lt X (B32_pos i)
 have h2:=Nat.mod_lt Y (B32_pos i)
 have:(X%B32^i+Y%B32^i)/B32^i<2:=by rw[Nat.div_lt_iff_lt_mul (B32_pos i)];omega
 omega
theorem addC_zero(X Y:Nat):addC X Y 0=0:=by simp[addC,Nat.mod_one]
theorem addS_eq(X Y i:Nat):addS X Y i=addC X Y i+X/B32^i%B32+Y/B32^i%B32:=rfl
theorem addS_lt(X Y i:Nat):addS X Y i<8589934592:=by
 have:=addC_le X Y i
 have h1:=B32_mod (X/B32^i)
 have h2:=B32_mod (Y/B32^i)
 rw[addS_eq];omega
theorem addS_carry(X Y i:Nat):addS X Y i/2^32=addC X Y (i+1):=by
 show _/B32=_
 unfold addS addC
 rw[Nat.pow_succ,Nat.mod_mul,Nat.mod_mul,←Nat.div_div_eq_div_mul]
 congr 1
 have e:X%B32^i+B32^i*(X/B32^i%B32)+(Y%B32^i+B32^i*(Y/B32^i%B32))=(X%B32^i+Y%B32^i)+B32^i*(X/B32^i%B32+Y/B32^i%B32):=by rw[Nat.mul_add];omega
 rw[e,Nat.add_mul_div_left _ _ (B32_pos i)]
 omega
theorem addS_low(X Y i:Nat):addS X Y i%4294967296=(X+Y)/B32^i%B32:=by
 show _%B32=_
 have e:X+Y=(X%B32^i+Y%B32^i)+B32^i*(X/B32^i+Y/B32^i):=by
  have h1:=Nat.mod_add_div X (B32^i)
  have h2:=Nat.mod_add_div Y (B32^i)
  rw[Nat.mul_add];omega
 conv=>rhs;rw[e]
 rw[Nat.add_mul_div_left _ _ (B32_pos i)]
 unfold addS
 generalize(X%B32^i+Y%B32^i)/B32^i=c
 generalize X/B32^i=p
 generalize Y/B32^i=q
 rw[Nat.add_assoc,Nat.add_mod,←Nat.add_mod p q,←Nat.add_mod]
theorem addT_step(X Y i j:Nat):addT X Y (i+1) j=if j=i then addS X Y i%4294967296 else addT X Y i j:=by
 rw[addS_low]
 unfold addT
 by_cases e:j=i
 ·subst e;rw[if_pos (by omega),if_pos rfl]
 ·rw[if_neg e]
  by_cases c:j<i
  ·rw[if_pos c,if_pos (by omega)]
  ·rw[if_neg c,if_neg (by omega)]
theorem addT_at(X Y i:Nat):addT X Y i i=X/B32^i%B32:=by unfold addT;rw[if_neg (by omega)]
theorem digs_above{Y i:Nat}(h:(digs B32 Y).length≤i):Y/B32^i%B32=0:=by
 rw[Nat.div_eq_of_lt (Nat.lt_of_lt_of_le (lt_pow_digs B32_two Y) (Nat.pow_le_pow_right (by decide) h))];rfl
theorem addT_zero(X Y:Nat):NV .u32 (digs B32 X)++(NV .u32 (List.replicate ((digs B32 X).length+1) 0)).drop (digs B32 X).length=NV .u32 (row ((digs B32 X).length+1) (addT X Y 0)):=by
 rw[NV_drop,NV_append]
 congr 1
 have e:row ((digs B32 X).length+1) (addT X Y 0)=row (digs B32 X).length (fun j=>X/B32^j%B32)++[0]:=by
  unfold row
  rw[List.range_succ,List.map_append]
  congr 1
  simp only[List.map_cons,List.map_nil,addT]
  rw[if_neg (by omega),digs_above (Nat.le_refl _)]
 rw[e,←digs_row B32_two X]
 congr 1
 simp
theorem addT_end{X Y:Nat}(h:(digs B32 Y).length≤(digs B32 X).length):val B32 (row ((digs B32 X).length+1) (addT X Y ((digs B32 X).length+1)))=X+Y:=by
 rw[row_congr (g:=fun j=>(X+Y)/B32^j%B32) (fun j hj=>by unfold addT;rw[if_pos hj]),val_row B32 (by decide),Nat.mod_eq_of_lt]
 have h1:=lt_pow_digs B32_two X
 have h2:=Nat.lt_of_lt_of_le (lt_pow_digs B32_two Y) (Nat.pow_le_pow_right (by decide) h)
 rw[Nat.pow_succ]
 have:B32^(digs B32 X).length*2≤B32^(digs B32 X).length*B32:=Nat.mul_le_mul_left _ (by decide)
 omega
theorem addT_lt(X Y i j:Nat):addT X Y i j<B32:=by unfold addT;split<;>exact B32_mod _
theorem dig_len_le{n k:Nat}(h:nb n≤k):(digs B32 n).length≤(k+3)/4:=by rw[digB_len];omega
end Go.Via
namespace Go.Proofs.YtfijbadahkmhbaaGreatDoor
open Go Go.RowKit Go.Via
theorem c_cmp_Or(a b:Int)(g:Nat):SCall Tryz.prog 160 [⟨some g,3,[.int .i64 a,.int .i64 b],2,false⟩] [slv (some g) 0 2 2] Unit (fun _=> .int .i64 (if a=0 then b else a)) (fun _=>[]):=by
 refine⟨by kernel_rfl,fun w hL0=>?_⟩;refine cB1 18 Tryz.func160 hL0 ?_;refine A19 ?_;refine El (ι:={i:Nat // i≤2∧(0<i→a=0)∧(1<i→b=0)}) (fun⟨i,hi,ha,hb⟩=>([(3,.int .i64 0),(6,slv (some g) 0 2 2),(7,.int .i64 2),(8,.int .i64 (i:Nat))],[⟨some g,3,[.int .i64 a,.int .i64 b],2,false⟩],2-i)) ⟨0,by omega,fun h=>absurd h (by omega),fun h=>absurd h (by omega)⟩ ?_;rintro⟨i,hi,ha,hb⟩;(try dsimp only);refine A6 ?_;refine Cd ?_ ?_<;>intro hb1
 ·have hlt:i<2:=(by have:=of_decide_eq_true hb1;omega);refine A6 ?_;refine Ix 0 i ?_;refine r_load1 (v:= .int .i64 (if i=0 then a else b)) 0 i ti3 rfl rfl rfl rfl (or_get a b i hlt) ?_;refine A10 ?_;refine Cd ?_ ?_<;>intro hb2
  ·have hne:(if i=0 then a else b)≠0:=by simpa using hb2
   refine A12 ?_;refine at_end1 rfl (res_tmp rfl) (fun w hL=>⟨(),?_,hL.pk []⟩);rw[or_end1 a b i ha hne]
  ·have he:(if i=0 then a else b)=0:=by simpa using hb2
   refine A4 ?_;refine Ar (((i+1:Nat):Int)) ?_;refine A3 ?_;exact Nl ⟨i+1,hlt,or_a a b i ha he,or_b a b i he⟩
 ·have hge:i=2:=(by have:=of_decide_eq_false hb1;omega);subst hge;refine A12 ?_;refine at_end1 rfl (res_tmp rfl) (fun w hL=>⟨(),?_,hL.pk []⟩);rw[if_pos (ha (by omega)),hb (by omega)]
theorem c_integer_compare(m n:Nat):PCall Tryz.prog 142 #[.string (mag m),.string (mag n)] (.int .i64 (cmpN m n)):=by
 refine⟨by kernel_rfl,fun w=>?_⟩;refine cB2 15 Tryz.func142 (LRel.nil w) ?_;refine A9 ?_;refine r_know 6 (.int .i64 (nb m:Nat)) rfl (by rw[mag_size]) ?_;refine A2 ?_;refine r_know 8 (.int .i64 (nb n:Nat)) rfl (by rw[mag_size]) ?_;refine Pc (c_cmp_Compare _ _) ?_;refine A2 ?_;refine Pc (c_strings_Compare _ _) ?_;refine r_buildSlice [(0,_),(1,_)] (fun g=>[⟨some g,3,_,2,true⟩]) rfl rfl rfl (bs57_2) rfl (fun _=>rfl) (fun g0=>?_);refine r_scall0 [_] [0] rfl rfl rfl (c_cmp_Or _ _ _) ⟨⟨_,rfl,le_share⟩,trivial⟩ rfl ?_;refine A4 ?_;refine E1 fun w hL=>⟨?_,hL.below⟩;rw[compare_all]
theorem c_trimLeftByte(l:List UInt8)(c:UInt8):PCall Tryz.prog 187 #[.string (strU l),.int .u8 (c.toNat:Nat)] (.string (strU (l.dropWhile (· ==c)))):=by
 refine⟨by kernel_rfl,fun w=>?_⟩;refine cB2 17 Tryz.func187 (LRel.nil w) ?_;refine A7 ?_;refine El (ι:={r:List UInt8 // r.dropWhile (· ==c)=l.dropWhile (· ==c)}) (fun⟨r,hr⟩=>([(0,.string (strU r)),(1,.int .u8 (c.toNat:Nat))],[],r.length)) ⟨l,rfl⟩ ?_;rintro⟨r,hr⟩;(try dsimp only);refine A5 ?_;refine r_know 6 (.int .i64 (r.length:Nat)) rfl (by rw[strU_size]) ?_;refine A2 ?_;refine Rs 8 ?_ ?_<;>intro hb1
 ·have h0:0<r.length:=(by have:=of_decide_eq_true hb1;omega);obtain⟨x,r,rfl⟩:=pos_cons h0;refine A1 ?_;refine r_idxS (b:=x) (r:=(x.toNat:Int)) u9 rfl rfl rfl rfl (by omega) rfl rfl ?_;refine A5 ?_;refine Cd ?_ ?_<;>intro hb2
  ·have hx:x=c:=by have:=eq_of_beq hb2;exact UInt8.toNat_inj.1 (by omega)
   refine A5 ?_;refine r_sliceStr (r:=strU r) u9 rfl rfl rfl rfl (by omega) (by rw[strU_size,List.length_cons];omega) (strU_tail x r) ?_;refine A4 ?_;exact Nl ⟨r,by rw[←hr,hx,List.dropWhile_cons_of_pos (by simp)]⟩ (hμ:=(by simp))
  ·have hx:x≠c:=fun e=>by subst e;simp at hb2
   refine A12 ?_;refine E1 fun w hL=>⟨?_,hL.below⟩;rw[←hr,List.dropWhile_cons_of_neg (by simpa using hx)]
 ·have h0:r=[]:=List.eq_nil_of_length_eq_zero (by have:=of_decide_eq_false hb1;omega);refine A20 ?_;refine E1 fun w hL=>⟨?_,hL.below⟩;rw[←hr,h0];rfl
theorem c_strings_TrimLeft(l:List UInt8):PCall Tryz.prog 176 #[.string (strU l),.string ⟨#[0]⟩] (.string (strU (l.dropWhile (· ==0)))):=by
 refine⟨by kernel_rfl,fun w=>?_⟩;refine cB2 37 Tryz.func176 (LRel.nil w) ?_;refine A11 ?_;refine Rs 9 ?_ ?_<;>intro hb0
 ·refine A14 ?_;refine E1 fun w hL=>⟨?_,hL.below⟩;rw[strU_empty hb0];rfl
 ·refine A2 ?_;refine Kr 11 (.bool false) ?_;refine A12 ?_;refine Kr 16 (.bool true) ?_;refine A2 ?_;refine r_idxS (b:=0) (r:=0) u9 rfl rfl rfl rfl (by omega) rfl rfl ?_;refine A1 ?_;refine Kr 20 (.bool true) ?_;refine A8 ?_;refine r_idxS (b:=0) (r:=0) u9 rfl rfl rfl rfl (by omega) rfl rfl ?_;refine Pc (c_trimLeftByte l 0) ?_;refine A5 ?_;refine E1 fun w hL=>⟨?_,hL.below⟩;exact rfl
theorem c_nat_trim(l:List Nat)(hl:∀d∈l,d<B32)(hn:l.length≤1073741824){len:Nat}(hlen:l.length=len)(x:SR len):SCall Tryz.prog 136 [⟨x.b,161,NV .u32 l,x.n,false⟩] [x.v] Unit (fun _=>slv x.b 0 (digs B32 (val B32 l)).length x.cap) (fun _=>[]):=by
 refine⟨by kernel_rfl,fun w hL0=>?_⟩;subst hlen;refine cB1 21 Tryz.func136 hL0 ?_;refine A7 ?_;refine El (ι:={m:Nat // m≤l.length∧val B32 (l.take m)=val B32 l}) (fun⟨m,hm,hv⟩=>([(0,slv x.b 0 m x.cap)],[⟨x.b,161,NV .u32 l,x.n,false⟩],m)) ⟨l.length,Nat.le_refl _,by rw[List.take_of_length_le (Nat.le_refl _)]⟩ ?_;rintro⟨m,hm,hv⟩;(try dsimp only);refine A7 ?_;refine Rs 6 ?_ ?_<;>intro hb1
 ·have h0:0<m:=(by have:=of_decide_eq_true hb1;omega);refine A3 ?_;refine Ar (((m-1:Nat):Int)) ?_;refine Ix 0 (m-1) ?_;refine r_load1 0 (m-1) ti161 rfl rfl rfl rfl (NV_get (l:=l) (List.getElem?_eq_getElem (by omega))) ?_;refine A4 ?_;refine Cd ?_ ?_<;>intro hb2
  ·have hz:l[m-1]=0:=(by have:=eq_of_beq hb2;omega);refine A7 ?_;refine Ar (((m-1:Nat):Int)) ?_;refine r_sliceH (m-1) u174 ti161 rfl rfl rfl rfl (by omega) (by have:=x.h;omega) (by omega) ?_;refine A4 ?_;exact Nl ⟨m-1,by omega,trim_step' h0 hm hv (by omega) hz⟩
  ·have hz:l[m-1]≠0:=(by have:=ne_of_beq_false hb2;omega);refine A12 ?_;refine at_end1 rfl (res_tmp rfl) (fun w hL=>⟨(),?_,hL.pk []⟩);rw[trim_len (B:=B32) (by decide) hl hm hv (.inr ⟨by omega,hz⟩)]
 ·have h0:m=0:=(by have:=of_decide_eq_false hb1;omega);refine A23 ?_;refine at_end1 rfl (res_tmp rfl) (fun w hL=>⟨(),?_,hL.pk []⟩);rw[trim_len (B:=B32) (by decide) hl hm hv (.inl h0)]
theorem c_integer_digits(n:Nat)(hn:nb n≤67108872):SCall Tryz.prog 135 [] [.string (mag n)] Nat (fun g=>slv (some g) 0 (digs B32 n).length (digs B32 n).length) (fun g=>[⟨some g,161,NV .u32 (digs B32 n),(digs B32 n).length,true⟩]):=by
 refine⟨by kernel_rfl,fun w hL0=>?_⟩;refine cB1 38 Tryz.func135 hL0 ?_;refine A9 ?_;refine r_know 7 (.int .i64 (nb n:Nat)) rfl (by rw[mag_size]) ?_;refine Ar (((nb n+3:Nat):Int)) ?_;refine r_div (r:=(((nb n+3)/4:Nat):Int)) rfl rfl rfl rfl (by omega) (congrArg some (quo_i _ 4 rfl rfl (by omega))) ?_;refine q_makeSlice (c:=(nb n+3)/4) (NV .u32 (row ((nb n+3)/4) (digT n 0))) (fun g=>[⟨some g,161,_,_,true⟩]) u174 el161 rfl rfl rfl rfl rfl rfl (by omega) (by rw[row_congr (g:=fun _=>0) (fun j _=>digT_zero n j),row_zero,NV_replicate]) (fun _=>rfl) (fun g0=>?_);refine A8 ?_;refine r_know 12 (.int .i64 (nb n:Nat)) rfl (by rw[mag_size]) ?_;refine A4 ?_;refine El (ι:={i:Nat // i≤nb n}) (fun⟨i,hi⟩=>([(0,.string (mag n)),(3,slv (some g0) 0 ((nb n+3)/4) ((nb n+3)/4)),(12,.int .i64 (nb n:Nat)),(13,.int .i64 (i:Nat))],[⟨some g0,161,NV .u32 (row ((nb n+3)/4) (digT n i)),(nb n+3)/4,true⟩],nb n-i)) ⟨0,Nat.zero_le _⟩ ?_;rintro⟨i,hi⟩;(try dsimp only);refine A6 ?_;refine Cd ?_ ?_<;>intro hb1
 ·have hlt:i<nb n:=(by have:=of_decide_eq_true hb1;omega);refine A14 ?_;refine r_know 17 (.int .i64 (nb n:Nat)) rfl (by rw[mag_size]) ?_;refine Ar (((nb n-1:Nat):Int)) ?_;refine A1 ?_;refine Ar (((nb n-1-i:Nat):Int)) ?_;refine A3 ?_;refine at_drawnI [] mixed (by kernel_rfl) (by kernel_rfl) ?_;refine A2 ?_;refine r_div (r:=((i/4:Nat):Int)) rfl rfl rfl rfl (by omega) (congrArg some (quo_i _ 4 rfl rfl (by omega))) ?_;refine Ix 0 (i/4) ?_;refine r_load1 0 (i/4) ti161 rfl rfl rfl rfl (NV_get (row_get (by omega))) ?_;refine A2 ?_;refine r_idxS (b:=UInt8.ofNat (n/256^i%256)) (r:=((n/256^i%256:Nat):Int)) u9 rfl rfl rfl rfl (by omega) (mag_at' n i hlt) (u8_nat _) ?_;refine r_conv (r:=((n/256^i%256:Nat):Int)) u5 u161 rfl rfl rfl (c32 _ rfl|>.trans (by rw[Nat.mod_eq_of_lt (by omega)])) ?_;refine A1 ?_;refine r_div (r:=((i%4:Nat):Int)) rfl rfl rfl rfl (by omega) (congrArg some (rem_n _ 4 rfl rfl)) ?_;refine Ar (((8*(i%4):Nat):Int)) ?_;refine r_shift (r:=((2^(8*(i%4))*(n/256^i%256):Nat):Int)) rfl rfl rfl rfl (by omega) (congrArg some ((shl_u32 _ _ rfl rfl (by omega) (by rw[Nat.mul_comm];have:=digT_sum n i;omega)).trans (by rw[Nat.mul_comm]))) ?_;refine r_or (r:=((digT n i (i/4)+2^(8*(i%4))*(n/256^i%256):Nat):Int)) rfl rfl rfl rfl (or_u32' (8*(i%4)) (digT_low n i) rfl (digT_sum n i) rfl rfl) ?_;refine Ix 0 (i/4) ?_;refine r_store1 rfl 0 (i/4) [⟨some g0,161,_,_,true⟩] (NV .u32 (row ((nb n+3)/4) (digT n (i+1)))) ti161 rfl rfl rfl rfl rfl rfl rfl rfl (by rw[NV_length,row_length];omega) (by rw[NV_set,row_set (fun j _=>digT_step' n i j)]) rfl ?_;refine A4 ?_;refine Ar (((i+1:Nat):Int)) ?_;refine A3 ?_;exact Nl ⟨i+1,hlt⟩
 ·have hge:i=nb n:=(by have:=of_decide_eq_false hb1;omega);subst hge;refine A12 ?_;refine at_end1 rfl (res_tmp rfl) (fun w hL=>⟨g0,?_,?_⟩)
  ·rw[digB_len]
  ·rw[digT_end] at hL;rw[digB_len];exact hL
theorem c_nat_bytes(l:List Nat)(hl:∀d∈l,d<B32)(hn:l.length≤67108872){len:Nat}(hlen0:l.length=len)(x:SR len):SCall Tryz.prog 162 [⟨x.b,161,NV .u32 l,x.n,false⟩] [x.v] Unit (fun _=> .string (mag (val B32 l))) (fun _=>[]):=by
 refine⟨by kernel_rfl,fun w hL0=>?_⟩;subst hlen0;have hlen:(digs B32 (val B32 l)).length≤l.length:=digs_length_le B32_two (val_lt (by decide) hl);generalize hN:val B32 l=N at*;generalize hM:(digs B32 N).length=M at*;have hx:=x.h;refine cB1 46 Tryz.func162 hL0 ?_;refine A8 ?_;refine r_scall0 [_] [0] rfl rfl rfl (c_nat_trim l hl (by omega) rfl x) ⟨⟨_,rfl,le_share⟩,trivial⟩ rfl ?_;refine r_know 8 (slv x.b 0 M x.cap) rfl (by rw[hN,hM]) ?_;refine A11 ?_;refine Cd ?_ ?_<;>intro hb0
 ·have h0:M=0:=by have:=eq_of_beq hb0;omega
  refine A7 ?_;refine at_end1 rfl (res_tmp rfl) (fun w hL=>⟨(),?_,hL.pk []⟩);rw[bytes_zero hN hM h0]
 ·have h0:M≠0:=by have:=ne_of_beq_false hb0;omega
  refine A6 ?_;refine Ar (((4*M:Nat):Int)) ?_;refine q_makeSlice (c:=4*M) (NV .u8 (row (4*M) (bytT N (4*M) 0))) (fun g=>[_,⟨some g,5,_,_,true⟩]) u125 el5 rfl rfl rfl rfl rfl rfl (by omega) (by rw[row_congr (g:=fun _=>0) (fun j _=>bytT_zero N _ j),row_zero,NV_replicate]) (fun _=>rfl) (fun g0=>?_);refine A12 ?_;refine El (ι:={i:Nat // i≤M}) (fun⟨i,hi⟩=>([(3,slv (some g0) 0 (4*M) (4*M)),(16,slv x.b 0 M x.cap),(17,.int .i64 (M:Nat)),(18,.int .i64 (i:Nat))],[⟨x.b,161,NV .u32 l,x.n,false⟩,⟨some g0,5,NV .u8 (row (4*M) (bytT N (4*M) (4*i))),4*M,true⟩],M-i)) ⟨0,Nat.zero_le _⟩ ?_;rintro⟨i,hi⟩;(try dsimp only);refine A6 ?_;refine Cd ?_ ?_<;>intro hb2
  ·have hlt:i<M:=(by have:=of_decide_eq_true hb2;omega);refine A7 ?_;refine Ix 0 (i) ?_;refine r_load1 0 (i) ti161 rfl rfl rfl rfl (NV_get (trim_get hl hN hM hlt)) ?_;refine A10 ?_;refine El (ι:={k:Nat // k≤4}) (fun⟨k,hk5⟩=>([(3,slv (some g0) 0 (4*M) (4*M)),(16,slv x.b 0 M x.cap),(17,.int .i64 (M:Nat)),(18,.int .i64 (i:Nat)),(4,.int .i64 (i:Nat)),(5,.int .u32 (N/B32^i%B32:Nat)),(23,.int .i64 (k:Nat))],[⟨x.b,161,NV .u32 l,x.n,false⟩,⟨some g0,5,NV .u8 (row (4*M) (bytT N (4*M) (4*i+k))),4*M,true⟩],4-k)) ⟨0,Nat.zero_le _⟩ ?_;rintro⟨k,hk5⟩;(try dsimp only);refine A6 ?_;refine Cd ?_ ?_<;>intro hb4
   ·have hk:k<4:=(by have:=of_decide_eq_true hb4;omega);refine A14 ?_;refine Ar (((4*M-1:Nat):Int)) ?_;refine A1 ?_;refine Ar (((4*i:Nat):Int)) ?_;refine Ar (((4*M-1-4*i:Nat):Int)) ?_;refine A1 ?_;refine Ar (((4*M-1-(4*i+k):Nat):Int)) ?_;refine A2 ?_;refine Ar (((8*k:Nat):Int)) ?_;refine r_shift (r:=((N/B32^i%B32/2^(8*k):Nat):Int)) rfl rfl rfl rfl (by omega) (congrArg some (shr_u32 _ _ rfl rfl (by omega))) ?_;refine r_conv (r:=((N/B32^i%B32/2^(8*k)%256:Nat):Int)) u161 u5 rfl rfl rfl (c8 _ rfl) ?_;refine Ix 1 (4*M-1-(4*i+k)) ?_;refine r_store1 rfl 1 (4*M-1-(4*i+k)) [_,⟨some g0,5,_,_,true⟩] (NV .u8 (row (4*M) (bytT N (4*M) (4*i+k+1)))) ti5 rfl rfl rfl rfl rfl rfl rfl rfl (by rw[NV_length,row_length];omega) (bytT_step N (4*M) (4*i+k) _ (by omega) (digit_byte N i k hk)) rfl ?_;refine A4 ?_;refine Ar (((k+1:Nat):Int)) ?_;refine A3 ?_;exact Nl ⟨k+1,hk⟩
   ·have hk4:k=4:=(by have:=of_decide_eq_false hb4;omega);subst hk4;refine A7 ?_;refine Ar (((i+1:Nat):Int)) ?_;refine A3 ?_;exact Nl ⟨i+1,hlt⟩
  ·have hge:i=M:=(by have:=of_decide_eq_false hb2;omega);subst hge;refine A8 ?_;refine r_convBS 1 u125 u5 u9 rfl rfl rfl rfl rfl (by rw[List.take_of_length_le (by rw[NV_length,row_length];exact Nat.le_refl _)]) (row_length _ _) (strN_eq _) ?_;refine Pc (c_strings_TrimLeft _) ?_;refine A4 ?_;refine at_end1 rfl (res_tmp rfl) (fun w hL=>⟨(),?_,hL.pk []⟩);rw[bytT_trim N (4*i) (bytes_lt4 hM)]
end Go.Proofs.YtfijbadahkmhbaaGreatDoor
namespace Go.Via
open Go
def subB(m n i:Nat):Nat:=if m%B32^i<n%B32^i then 1 else 0
def subT(m n i j:Nat):Nat:=if j<i then(m-n)/B32^j%B32 else m/B32^j%B32
theorem subB_zero(m n:Nat):subB m n 0=0:=by simp[subB,Nat.mod_one]
theorem subB_le(m n i:Nat):subB m n i≤1:=by unfold subB;split<;>omega
theorem sub_div{m n i:Nat}(h:n≤m):(m-n)/B32^i+n/B32^i+subB m n i=m/B32^i:=by
 have h1:=Nat.mod_add_div m (B32^i)
 have h2:=Nat.mod_add_div n (B32^i)
 have h3:=Nat.mod_lt m (B32_pos i)
 have h4:=Nat.mod_lt n (B32_pos i)
 have hp:=B32_pos i
 generalize hP:B32^i=P at*
 generalize m/P=M at*
 generalize n/P=N at*
 unfold subB
 rw[hP]
 split
 ·rename_i hlt
  have hMN:N+1≤M:=by
   by_cases c:M≤N
   ·have:=Nat.mul_le_mul_left P c;omega
   ·omega
  obtain⟨k,rfl⟩:∃k,M=N+1+k:=⟨M-(N+1),by omega⟩
  have e:m-n=(m%P+P-n%P)+P*k:=by
   rw[Nat.mul_add,Nat.mul_add] at h1;omega
  rw[e,Nat.add_mul_div_left _ _ hp,Nat.div_eq_of_lt (by omega)];omega
 ·rename_i hge
  have hMN:N≤M:=by
   by_cases c:M<N
   ·have:=Nat.mul_le_mul_left P c;rw[Nat.mul_succ] at this;omega
   ·omega
  obtain⟨k,rfl⟩:∃k,M=N+k:=⟨M-N,by omega⟩
  have e:m-n=(m%P-n%P)+P*k:=by
   rw[Nat.mul_add] at h1;omega
  rw[e,Nat.add_mul_div_left _ _ hp,Nat.div_eq_of_lt (by omega)];omega
theorem subB_succ(m n i:Nat):subB m n (i+1)=if m/B32^i%B32<n/B32^i%B32+subB m n i then 1 else 0:=by
 unfold subB
 rw[Nat.pow_succ,Nat.mod_mul,Nat.mod_mul]
 have h3:=Nat.mod_lt m (B32_pos i)
 have h4:=Nat.mod_lt n (B32_pos i)
 generalize m/B32^i%B32=x
 generalize n/B32^i%B32=y
 generalize hP:B32^i=P at*
 have key:(m%P+P*x<n%P+P*y)↔x<y+(if m%P<n%P then 1 else 0):=by
  rcases Nat.lt_trichotomy x y with c|c|c
  ·have:=Nat.mul_le_mul_left P c;rw[Nat.mul_succ] at this
   constructor<;>intro _<;>omega
  ·subst c;split<;>constructor<;>intro _<;>omega
  ·have:=Nat.mul_le_mul_left P c;rw[Nat.mul_succ] at this
   split<;>constructor<;>intro _<;>omega
 simp only[key]
theorem sub_neg{m n i:Nat}(h:n≤m)(hd:m/B32^i%B32<n/B32^i%B32+subB m n i):m/B32^i%B32+4294967296=(m-n)/B32^i%B32+n/B32^i%B32+subB m n i∧subB m n (i+1)=1:=by
 refine⟨?_,by rw[subB_succ,if_pos hd]⟩
 have h1:=sub_div (i:=i) h
 have h2:=subB_le m n i
 unfold B32 at*
 omega
theorem sub_pos{m n i:Nat}(h:n≤m)(hd:¬m/B32^i%B32<n/B32^i%B32+subB m n i):m/B32^i%B32=(m-n)/B32^i%B32+n/B32^i%B32+subB m n i∧subB m n (i+1)=0:=by
 refine⟨?_,by rw[subB_succ,if_neg hd]⟩
 have h1:=sub_div (i:=i) h
 have h2:=subB_le m n i
 unfold B32 at*
 omega
theorem subT_step(m n i j:Nat):subT m n (i+1) j=if j=i then(m-n)/B32^i%B32 else subT m n i j:=by
 unfold subT
 by_cases e:j=i
 ·subst e;rw[if_pos (by omega),if_pos rfl]
 ·rw[if_neg e]
  by_cases c:j<i
  ·rw[if_pos c,if_pos (by omega)]
  ·rw[if_neg c,if_neg (by omega)]
theorem subT_at(m n i:Nat):subT m n i i=m/B32^i%B32:=by unfold subT;rw[if_neg (by omega)]
theorem subT_zero(m n:Nat):NV .u32 (digs B32 m)++(NV .u32 (List.replicate (digs B32 m).length 0)).drop (digs B32 m).length=NV .u32 (row (digs B32 m).length (subT m n 0)):=by
 rw[NV_drop,NV_append]
 congr 1
 rw[row_congr (g:=fun j=>m/B32^j%B32) (fun j _=>by unfold subT;rw[if_neg (by omega)]),←digs_row B32_two m]
 simp
theorem subT_end{m n:Nat}(h:n≤m):val B32 (row (digs B32 m).length (subT m n (digs B32 m).length))=m-n:=by
 rw[row_congr (g:=fun j=>(m-n)/B32^j%B32) (fun j hj=>by unfold subT;rw[if_pos hj]),val_row B32 (by decide),Nat.mod_eq_of_lt]
 have h1:=lt_pow_digs B32_two m
 omega
theorem subT_lt(m n i j:Nat):subT m n i j<B32:=by unfold subT;split<;>exact B32_mod _
def mulV(m n i:Nat):Nat:=m%B32^i*n
def mulC(m n i k:Nat):Nat:=(mulV m n i/B32^i%B32^k+m/B32^i%B32*(n%B32^k))/B32^k
def mulS(m n i k:Nat):Nat:=mulC m n i k+mulV m n i/B32^(i+k)%B32+m/B32^i%B32*(n/B32^k%B32)
def mulT(m n i k j:Nat):Nat:=if j<i+k then mulV m n (i+1)/B32^j%B32 else mulV m n i/B32^j%B32
def mulR(m n i j:Nat):Nat:=mulV m n i/B32^j%B32
theorem mulV_succ(m n i:Nat):mulV m n (i+1)=mulV m n i+B32^i*(m/B32^i%B32*n):=by
 unfold mulV;rw[Nat.pow_succ,Nat.mod_mul,Nat.add_mul,Nat.mul_assoc]
theorem mulC_zero(m n i:Nat):mulC m n i 0=0:=by simp[mulC,Nat.mod_one]
theorem mulC_lt(m n i k:Nat):mulC m n i k<B32:=by
 unfold mulC
 rw[Nat.div_lt_iff_lt_mul (B32_pos k)]
 have h1:=Nat.mod_lt (mulV m n i/B32^i) (B32_pos k)
 have h2:=Nat.mod_lt n (B32_pos k)
 have h3:m/B32^i%B32+1≤B32:=Nat.mod_lt _ (by decide)
 have h4:(m/B32^i%B32)*(n%B32^k)≤(m/B32^i%B32)*(B32^k):=Nat.mul_le_mul_left _ (by omega)
 have h5:(m/B32^i%B32+1)*B32^k≤B32*B32^k:=Nat.mul_le_mul_right _ h3
 rw[Nat.add_mul] at h5
 omega
theorem dmul_le(p q:Nat):p%B32*(q%B32)≤18446744065119617025:=by
 have h1:p%B32≤4294967295:=by have:=B32_mod p;omega
 have h2:q%B32≤4294967295:=by have:=B32_mod q;omega
 exact Nat.mul_le_mul h1 h2
theorem mulS_lt(m n i k:Nat):mulS m n i k<18446744073709551616:=by
 have h1:=mulC_lt m n i k
 have h2:=B32_mod (mulV m n i/B32^(i+k))
 have h3:=dmul_le (m/B32^i) (n/B32^k)
 unfold mulS B32 at*
 omega
theorem div_pow_add(V i k:Nat):V/B32^(i+k)=V/B32^i/B32^k:=by rw[Nat.pow_add,Nat.div_div_eq_div_mul]
theorem mulS_carry(m n i k:Nat):mulS m n i k/2^32=mulC m n i (k+1):=by
 show _/B32=_
 unfold mulS mulC
 rw[div_pow_add,Nat.pow_succ,Nat.mod_mul,Nat.mod_mul,←Nat.div_div_eq_div_mul]
 congr 1
 generalize m/B32^i%B32=dd
 generalize mulV m n i/B32^i=A
 have e:A%B32^k+B32^k*(A/B32^k%B32)+dd*(n%B32^k+B32^k*(n/B32^k%B32))=(A%B32^k+dd*(n%B32^k))+B32^k*(A/B32^k%B32+dd*(n/B32^k%B32)):=by grind
 rw[e,Nat.add_mul_div_left _ _ (B32_pos k)]
 omega
theorem mulS_low(m n i k:Nat):mulS m n i k%4294967296=mulV m n (i+1)/B32^(i+k)%B32:=by
 show _%B32=_
 unfold mulS mulC
 rw[div_pow_add,div_pow_add,mulV_succ,Nat.add_mul_div_left _ _ (B32_pos i)]
 generalize m/B32^i%B32=dd
 generalize mulV m n i/B32^i=A
 have e:A+dd*n=(A%B32^k+dd*(n%B32^k))+B32^k*(A/B32^k+dd*(n/B32^k)):=by
  have h1:=Nat.mod_add_div A (B32^k)
  have h2:=Nat.mod_add_div n (B32^k)
  conv=>lhs;rw[←h1,←h2]
  grind
 conv=>rhs;rw[e]
 rw[Nat.add_mul_div_left _ _ (B32_pos k)]
 generalize(A%B32^k+dd*(n%B32^k))/B32^k=c
 generalize A/B32^k=p
 generalize n/B32^k=q
 have e2:∀x y z w:Nat,(x+y%B32+z*(w%B32))%B32=(x+(y+z*w))%B32:=by
  intro x y z w
  have h1:=Nat.mod_add_div y B32
  have h2:=Nat.mod_add_div w B32
  have:x+(y+z*w)=(x+y%B32+z*(w%B32))+B32*(y/B32+z*(w/B32)):=by
   conv=>lhs;rw[←h1,←h2]
   grind
  rw[this,Nat.add_mul_mod_self_left]
 exact e2 c p dd q
theorem mulT_at(m n i k:Nat):mulT m n i k (i+k)=mulV m n i/B32^(i+k)%B32:=by unfold mulT;rw[if_neg (by omega)]
theorem mulT_step(m n i k j:Nat):mulT m n i (k+1) j=if j=i+k then mulS m n i k%4294967296 else mulT m n i k j:=by
 rw[mulS_low]
 unfold mulT
 by_cases e:j=i+k
 ·subst e;rw[if_pos (by omega),if_pos rfl]
 ·rw[if_neg e]
  by_cases c:j<i+k
  ·rw[if_pos c,if_pos (by omega)]
  ·rw[if_neg c,if_neg (by omega)]
theorem mulT_zero(m n i j:Nat):mulT m n i 0 j=mulR m n i j:=by
 unfold mulT mulR
 split
 ·rename_i h
  rw[mulV_succ]
  have e0:B32^i=B32^j*(B32*B32^(i-j-1)):=by
   rw[←Nat.mul_assoc,←Nat.pow_succ,←Nat.pow_add,show j+1+(i-j-1)=i by omega]
  have e:B32^i*(m/B32^i%B32*n)=B32^j*(B32*(B32^(i-j-1)*(m/B32^i%B32*n))):=by
   generalize m/B32^i%B32*n=r
   rw[e0,Nat.mul_assoc,Nat.mul_assoc]
  rw[e,Nat.add_mul_div_left _ _ (B32_pos j),Nat.add_mul_mod_self_left]
 ·rfl
theorem mulV_lt(m n i:Nat):mulV m n i<B32^(i+(digs B32 n).length):=by
 unfold mulV
 rw[Nat.pow_add]
 have h1:=Nat.mod_lt m (B32_pos i)
 have h2:=lt_pow_digs B32_two n
 calc m%B32^i*n≤B32^i*n:=Nat.mul_le_mul_right _ (by omega)
  _<B32^i*B32^(digs B32 n).length:=(Nat.mul_lt_mul_left (B32_pos i)).2 h2
theorem mul_last(m n i:Nat):mulC m n i (digs B32 n).length%4294967296=mulV m n (i+1)/B32^(i+(digs B32 n).length)%B32:=by
 have h:=mulS_low m n i (digs B32 n).length
 unfold mulS at h
 rw[digs_above (Nat.le_refl _),Nat.div_eq_of_lt (mulV_lt m n i)] at h
 simpa using h
theorem mulT_last(m n i j:Nat):mulR m n (i+1) j=if j=i+(digs B32 n).length then mulC m n i (digs B32 n).length%4294967296 else mulT m n i (digs B32 n).length j:=by
 rw[mul_last]
 unfold mulT mulR
 by_cases e:j=i+(digs B32 n).length
 ·subst e;rw[if_pos rfl]
 ·rw[if_neg e]
  by_cases c:j<i+(digs B32 n).length
  ·rw[if_pos c]
  ·rw[if_neg c]
   have h1:B32^(i+(digs B32 n).length)≤B32^j:=Nat.pow_le_pow_right (by decide) (by omega)
   have h2:B32^(i+1+(digs B32 n).length)≤B32^j:=Nat.pow_le_pow_right (by decide) (by omega)
   rw[Nat.div_eq_of_lt (Nat.lt_of_lt_of_le (mulV_lt m n i) h1),Nat.div_eq_of_lt (Nat.lt_of_lt_of_le (mulV_lt m n (i+1)) h2)]
theorem mulR_zero(m n j:Nat):mulR m n 0 j=0:=by simp[mulR,mulV,Nat.mod_one]
theorem mulR_end(m n:Nat):val B32 (row ((digs B32 m).length+(digs B32 n).length+1) (mulR m n (digs B32 m).length))=m*n:=by
 have e:mulV m n (digs B32 m).length=m*n:=by unfold mulV;rw[Nat.mod_eq_of_lt (lt_pow_digs B32_two m)]
 have h:=mulV_lt m n (digs B32 m).length
 rw[row_congr (g:=fun j=>m*n/B32^j%B32) (fun j hj=>by unfold mulR;rw[e]),val_row B32 (by decide),Nat.mod_eq_of_lt]
 rw[e] at h
 exact Nat.lt_of_lt_of_le h (Nat.pow_le_pow_right (by decide) (by omega))
theorem mulR_lt(m n i j:Nat):mulR m n i j<B32:=B32_mod _
theorem mul_small{m n:Nat}(h:((m*n/18446744073709551616:Nat):Int)=0):m*n%18446744073709551616=m*n:=by omega
theorem mulS_lt1(m n i k:Nat):mulV m n i/B32^(i+k)%B32+m/B32^i%B32*(n/B32^k%B32)<18446744073709551616:=by
 have:=mulS_lt m n i k;unfold mulS at this;omega
theorem mulS_cast(m n i k:Nat):((mulC m n i k:Nat):Int)+((mulV m n i/B32^(i+k)%B32+m/B32^i%B32*(n/B32^k%B32):Nat):Int)=((mulS m n i k:Nat):Int):=by
 unfold mulS;rw[←Int.natCast_add,Nat.add_assoc]
def shoT(m y p j:Nat):Nat:=if j<p then m/B32^j%B32 else m/y/B32^j%B32
theorem shoT_at(m y q:Nat):shoT m y (q+1) q=m/B32^q%B32:=by unfold shoT;rw[if_pos (by omega)]
theorem sho_w(m q:Nat):m/B32^q=m/B32^(q+1)*B32+m/B32^q%B32:=by
 rw[Nat.pow_succ,←Nat.div_div_eq_div_mul]
 have:=Nat.div_add_mod (m/B32^q) B32
 rw[Nat.mul_comm] at this;omega
def shoW(m y q:Nat):Nat:=m/B32^(q+1)%y*B32+m/B32^q%B32
theorem shoW_eq(m y q:Nat)(hy:0<y):m/B32^q=y*(m/B32^(q+1)/y*B32)+shoW m y q:=by
 have h1:=sho_w m q
 have h2:=Nat.div_add_mod (m/B32^(q+1)) y
 unfold shoW
 conv=>lhs;rw[h1,←h2]
 rw[Nat.add_mul,Nat.mul_assoc,Nat.add_assoc]
theorem shoW_lt(m y q:Nat)(hy:0<y):shoW m y q<y*B32:=by
 unfold shoW
 have h1:m/B32^(q+1)%y+1≤y:=Nat.mod_lt _ hy
 have h2:m/B32^q%B32<B32:=Nat.mod_lt _ (by decide)
 have h3:=Nat.mul_le_mul_right B32 h1
 rw[Nat.add_mul] at h3
 omega
theorem shoW_lt64(m y q:Nat)(hy:0<y)(hy2:y<4294967296):shoW m y q<18446744073709551616:=by
 have h1:=shoW_lt m y q hy
 have h2:y*B32≤4294967295*B32:=Nat.mul_le_mul_right _ (by omega)
 have e:(B32:Nat)=4294967296:=rfl
 rw[e] at h1 h2
 omega
theorem shoW_quo(m y q:Nat)(hy:0<y):shoW m y q/y=m/y/B32^q%B32:=by
 have h1:=shoW_eq m y q hy
 have h2:shoW m y q/y<B32:=by rw[Nat.div_lt_iff_lt_mul hy,Nat.mul_comm];exact shoW_lt m y q hy
 have e:m/y/B32^q=m/B32^q/y:=by rw[Nat.div_div_eq_div_mul,Nat.div_div_eq_div_mul,Nat.mul_comm]
 rw[e,h1,Nat.mul_add_div hy,Nat.mul_comm _ B32,Nat.mul_add_mod,Nat.mod_eq_of_lt h2]
theorem shoW_rem(m y q:Nat)(hy:0<y):shoW m y q%y=m/B32^q%y:=by
 have h1:=shoW_eq m y q hy
 conv=>rhs;rw[h1]
 rw[Nat.mul_add_mod]
theorem shoT_step(m y q j:Nat)(hy:0<y):shoT m y q j=if j=q then shoW m y q/y%4294967296 else shoT m y (q+1) j:=by
 rw[shoW_quo m y q hy]
 show _=if j=q then _%B32 else _
 rw[Nat.mod_mod]
 unfold shoT
 by_cases e:j=q
 ·subst e;rw[if_neg (by omega),if_pos rfl]
 ·rw[if_neg e]
  by_cases c:j<q
  ·rw[if_pos c,if_pos (by omega)]
  ·rw[if_neg c,if_neg (by omega)]
theorem shoT_start(m y:Nat):digs B32 m=row (digs B32 m).length (shoT m y (digs B32 m).length):=by
 conv=>lhs;rw[digs_row B32_two m]
 exact row_congr fun j hj=>by unfold shoT;rw[if_pos hj]
theorem shoR_start(m y:Nat):m/B32^(digs B32 m).length%y=0:=by
 rw[Nat.div_eq_of_lt (lt_pow_digs B32_two m)];simp
def shoQ(m y j:Nat):Nat:=m/y/B32^j%B32
theorem shoQ_val(m y:Nat):val B32 (row (digs B32 m).length (shoQ m y))=m/y:=by
 unfold shoQ
 rw[val_row B32 (by decide),Nat.mod_eq_of_lt]
 exact Nat.lt_of_le_of_lt (Nat.div_le_self _ _) (lt_pow_digs B32_two m)
def shV(m s i:Nat):Nat:=m%B32^i*2^s
def shT(m s i j:Nat):Nat:=shV m s i/B32^j%B32
def shW(m s i:Nat):Nat:=m/B32^i%B32*2^s
theorem shV_succ(m s i:Nat):shV m s (i+1)=shV m s i+B32^i*shW m s i:=by
 unfold shV shW;rw[Nat.pow_succ,Nat.mod_mul,Nat.add_mul,Nat.mul_assoc]
theorem two_pow_le{s:Nat}(hs:s<32):2^s≤2147483648:=Nat.pow_le_pow_right (n:=2) (by omega) (show s≤31 by omega)
theorem shW_lt(m s i:Nat)(hs:s<32):shW m s i<18446744073709551616:=by
 unfold shW
 have h1:=B32_mod (m/B32^i)
 have h2:=two_pow_le hs
 have:m/B32^i%B32*2^s≤4294967295*2147483648:=Nat.mul_le_mul (by omega) h2
 omega
theorem shV_low(m s i:Nat):shV m s i/B32^i<2^s:=by
 rw[Nat.div_lt_iff_lt_mul (B32_pos i)]
 unfold shV
 rw[Nat.mul_comm]
 exact(Nat.mul_lt_mul_left (Nat.pow_pos (by omega))).2 (Nat.mod_lt _ (B32_pos i))
theorem B32_two_pow{s:Nat}(hs:s<32):B32=2^s*2^(32-s):=by rw[←Nat.pow_add,show s+(32-s)=32 by omega];rfl
theorem shW_mod(m s i:Nat)(hs:s<32):shW m s i%4294967296=2^s*(m/B32^i%B32%2^(32-s)):=by
 show _%B32=_
 unfold shW
 conv=>lhs;rw[B32_two_pow hs]
 rw[Nat.mul_comm _ (2^s),Nat.mul_mod_mul_left]
 congr 1
 rw[←B32_two_pow hs]
theorem shT_at(m s i:Nat)(hs:s<32):shT m s i i=shV m s i/B32^i:=by
 unfold shT
 have h1:=shV_low m s i
 have h2:=two_pow_le hs
 exact Nat.mod_eq_of_lt (by unfold B32 at*;omega)
theorem sh_sum(m s i:Nat)(hs:s<32):shV m s i/B32^i+shW m s i%4294967296<4294967296∧shT m s (i+1) i=shV m s i/B32^i+shW m s i%4294967296:=by
 have h1:=shV_low m s i
 have e:=shW_mod m s i hs
 have h3:m/B32^i%B32%2^(32-s)+1≤2^(32-s):=Nat.mod_lt _ (Nat.pow_pos (by omega))
 have h4:=Nat.mul_le_mul_left (2^s) h3
 have hB:=B32_two_pow hs
 rw[←hB,Nat.mul_add] at h4
 have hlt:shV m s i/B32^i+shW m s i%4294967296<4294967296:=by rw[e];unfold B32 at*;omega
 refine⟨hlt,?_⟩
 unfold shT
 rw[shV_succ,Nat.add_mul_div_left _ _ (B32_pos i)]
 have:shV m s i/B32^i+shW m s i=(shV m s i/B32^i+shW m s i%B32)+B32*(shW m s i/B32):=by
  have:=Nat.mod_add_div (shW m s i) B32;omega
 rw[this,Nat.add_mul_mod_self_left]
 exact Nat.mod_eq_of_lt hlt
theorem sh_high(m s i:Nat)(hs:s<32):shT m s (i+1) (i+1)=shW m s i/2^32%4294967296:=by
 have h0:=(sh_sum m s i hs).1
 unfold shT
 rw[shV_succ,Nat.pow_succ,←Nat.div_div_eq_div_mul,Nat.add_mul_div_left _ _ (B32_pos i)]
 have:shV m s i/B32^i+shW m s i=(shV m s i/B32^i+shW m s i%B32)+B32*(shW m s i/B32):=by
  have:=Nat.mod_add_div (shW m s i) B32;omega
 have h0':shV m s i/B32^i+shW m s i%B32<B32:=h0
 rw[this,Nat.add_mul_div_left _ _ (by decide),Nat.div_eq_of_lt h0',Nat.zero_add]
 rfl
theorem shV_lt(m s i:Nat):shV m s i<B32^i*2^s:=(Nat.mul_lt_mul_right (Nat.pow_pos (by omega))).2 (Nat.mod_lt _ (B32_pos i))
def shM(m s i j:Nat):Nat:=if j=i then shT m s (i+1) i else shT m s i j
theorem shT_step(m s i j:Nat)(hs:s<32):shT m s (i+1) j=if j=i+1 then shW m s i/2^32%4294967296 else shM m s i j:=by
 by_cases e:j=i+1
 ·subst e;rw[if_pos rfl,sh_high m s i hs]
 ·rw[if_neg e]
  unfold shM
  by_cases e2:j=i
  ·subst e2;rw[if_pos rfl]
  ·rw[if_neg e2]
   unfold shT
   by_cases c:j<i
   ·rw[shV_succ]
    have e0:B32^i=B32^j*(B32*B32^(i-j-1)):=by
     rw[←Nat.mul_assoc,←Nat.pow_succ,←Nat.pow_add,show j+1+(i-j-1)=i by omega]
    rw[e0,Nat.mul_assoc,Nat.add_mul_div_left _ _ (B32_pos j),Nat.mul_assoc,Nat.add_mul_mod_self_left]
   ·have h2:=two_pow_le hs
    have h3:B32^(i+2)≤B32^j:=Nat.pow_le_pow_right (by decide) (by omega)
    have key:∀k,k≤i+1→shV m s k/B32^j=0:=fun k hk=>Nat.div_eq_of_lt (by
 have h4:=shV_lt m s k
 have h5:B32^k*2^s≤B32^(i+1)*B32:=Nat.mul_le_mul (Nat.pow_le_pow_right (by decide) hk) (by unfold B32;omega)
 rw[←Nat.pow_succ] at h5
 have h6:B32^(i+1).succ=B32^(i+2):=rfl
 omega)
    rw[key (i+1) (by omega),key i (by omega)]
theorem shT_zero(m s j:Nat):shT m s 0 j=0:=by simp[shT,shV,Nat.mod_one]
def shR(N j:Nat):Nat:=N/B32^j%B32
theorem shT_end(m s j:Nat):shT m s (digs B32 m).length j=shR (m*2^s) j:=by
 unfold shT shR shV;rw[Nat.mod_eq_of_lt (lt_pow_digs B32_two m)]
theorem sh_or(m s i:Nat)(hs:s<32):IntKind.u32.wrap ((BitVec.ofInt IntKind.u32.bits ((shT m s i i:Nat):Int)|||BitVec.ofInt IntKind.u32.bits ((shW m s i%4294967296:Nat):Int)).toNat)=((shT m s (i+1) i:Nat):Int):=by
 obtain⟨h1,h2⟩:=sh_sum m s i hs
 rw[←shT_at m s i hs] at h1 h2
 have e:=shW_mod m s i hs
 rw[e] at h1 h2 ⊢
 exact or_u32' s (by rw[shT_at m s i hs];exact shV_low m s i) h2.symm (by rw[h2];exact h1) rfl rfl
end Go.Via
namespace Go.Proofs.YtfijbadahkmhbaaGreatDoor
open Go Go.RowKit Go.Via
theorem c_nat_short(m y:Nat)(hm:nb m≤67108872)(hy:0<y)(hy2:y<4294967296)(g N cap:Nat):MCall Tryz.prog 137 ⟨some g,161,NV .u32 (digs B32 m),N,true⟩ [slv (some g) 0 (digs B32 m).length cap,.int .u32 (y:Nat)] (.int .u32 (m%y:Nat)) ⟨some g,161,NV .u32 (row (digs B32 m).length (shoQ m y)),N,true⟩:=by
 refine⟨by kernel_rfl,fun B w R hD hL0=>?_⟩;have hdm:=dig_len_le hm;refine cB2 36 Tryz.func137 hL0 ?_;refine A15 ?_;refine Ar ((((digs B32 m).length:Nat):Int)-1) ?_;refine A4 ?_;refine El (ι:={p:Nat // p≤(digs B32 m).length}) (fun⟨p,hp⟩=>([(0,slv (some g) 0 (digs B32 m).length cap),(1,.int .u32 (y:Nat)),(5,.int .u64 (m/B32^p%y:Nat)),(6,.int .i64 ((p:Nat)-1))],(⟨some g,161,NV .u32 (row (digs B32 m).length (shoT m y p)),N,true⟩::R),p)) ⟨(digs B32 m).length,Nat.le_refl _⟩ ?_ (ht:=⟨rfl,rfl,(look_val rfl (by rw[shoR_start];rfl)),rfl,trivial⟩) (hL:=(weak_eq (congrArg (fun c=>(⟨some g,161,NV .u32 c,N,true⟩:Blk)::R) (shoT_start m y))));rintro⟨p,hp⟩;(try dsimp only);refine A7 ?_;refine Cd ?_ ?_<;>intro hb1
 ·obtain⟨q,rfl⟩:∃q,p=q+1:=⟨p-1,by have:=of_decide_eq_true hb1;omega⟩;refine at_know 6 (.int .i64 (q:Nat)) rfl (congrArg (Value.int .i64) (by omega)) ?_;have hr1:=Nat.mod_lt (m/B32^(q+1)) hy;have hx1:=B32_mod (m/B32^q);have hw:=shoW_lt64 m y q hy hy2;refine A7 ?_;refine r_shift (r:=((m/B32^(q+1)%y*2^32:Nat):Int)) rfl rfl rfl rfl (by omega) (congrArg some (shl_u _ 32 rfl rfl (by omega) (by omega))) ?_;refine A1 ?_;refine Kr 16 (slv (some g) 0 (digs B32 m).length cap) ?_;refine A1 ?_;refine Ix 0 q ?_;refine r_load1 0 (q) ti161 rfl rfl rfl rfl (NV_get ((row_get (by omega)).trans (by rw[shoT_at]))) ?_;refine r_conv (r:=((m/B32^q%B32:Nat):Int)) u161 u163 rfl rfl rfl (c64 _ rfl (by omega)) ?_;refine r_or (r:=((shoW m y q:Nat):Int)) rfl rfl rfl rfl (or_u64 32 (B32_mod _) (by rw[Nat.mul_comm];rfl) hw (by rw[Nat.mul_comm]) rfl) ?_;refine A3 ?_;refine at_drawnI [0] mixed (by kernel_rfl) (by kernel_rfl) ?_;refine A4 ?_;refine r_conv (r:=((y:Nat):Int)) u161 u163 rfl rfl rfl (c64 _ rfl (by omega)) ?_;refine r_div (r:=((shoW m y q/y:Nat):Int)) rfl rfl rfl rfl (by omega) (congrArg some (quo_u _ _ rfl rfl (Nat.lt_of_le_of_lt (Nat.div_le_self _ _) hw))) ?_;refine r_conv (r:=((shoW m y q/y%4294967296:Nat):Int)) u163 u161 rfl rfl rfl (c32 _ rfl) ?_;refine A2 ?_;refine r_conv (r:=((y:Nat):Int)) u161 u163 rfl rfl rfl (c64 _ rfl (by omega)) ?_;refine r_div (r:=((m/B32^q%y:Nat):Int)) rfl rfl rfl rfl (by omega) (congrArg some ((rem_n _ _ rfl rfl).trans (by rw[shoW_rem m y q hy]))) ?_;refine r_indexAddrG (q) u174 ti161 rfl rfl rfl rfl (by omega) (by omega) (by show 0+Int.toNat _*1=_;omega) ?_;refine r_store1E 0 (q) (⟨some g,161,_,N,true⟩::R) (NV .u32 (row (digs B32 m).length (shoT m y q))) ti161 rfl rfl rfl rfl rfl rfl rfl rfl (by rw[NV_length,row_length];omega) (by rw[NV_set,row_set (fun j _=>shoT_step m y q j hy)]) rfl rfl ?_;refine A6 ?_;refine Ar (((q:Nat):Int)-1) ?_;refine A3 ?_;exact Nl ⟨q,by omega⟩
 ·have hp0:p=0:=by have:=of_decide_eq_false hb1;omega
  subst hp0;refine A8 ?_;refine r_conv (r:=((m%y:Nat):Int)) u163 u161 rfl rfl rfl ((c32 _ (by rw[Nat.pow_zero,Nat.div_one])).trans (by rw[Nat.mod_eq_of_lt (Nat.lt_trans (Nat.mod_lt _ hy) hy2)])) ?_;refine A4 ?_;refine at_end1 rfl (res_tmp rfl) (fun w hL=>⟨?_,hL⟩);exact rfl
theorem c_nat_shifted(m s:Nat)(hm:nb m≤67108872)(hs:s<32)(x:SR (digs B32 m).length):SCall Tryz.prog 164 [⟨x.b,161,NV .u32 (digs B32 m),x.n,false⟩] [x.v,.int .i64 (s:Nat)] Nat (fun g=>slv (some g) 0 ((digs B32 m).length+1) ((digs B32 m).length+1)) (fun g=>[⟨some g,161,NV .u32 (row ((digs B32 m).length+1) (shR (m*2^s))),(digs B32 m).length+1,true⟩]):=by
 refine⟨by kernel_rfl,fun w hL0=>?_⟩;have hdm:=dig_len_le hm;refine cB2 41 Tryz.func164 hL0 ?_;refine A9 ?_;refine Ar ((((digs B32 m).length+1:Nat):Int)) ?_;refine q_makeSlice (c:=(digs B32 m).length+1) (NV .u32 (row ((digs B32 m).length+1) (shT m s 0))) (fun g=>[_,⟨some g,161,_,_,true⟩]) u174 el161 rfl rfl rfl rfl rfl rfl (by omega) (by rw[row_congr (g:=fun _=>0) (fun j _=>shT_zero m s j),row_zero,NV_replicate]) (fun _=>rfl) (fun g0=>?_);refine A12 ?_;refine El (ι:={i:Nat // i≤(digs B32 m).length}) (fun⟨i,hi⟩=>([(1,.int .i64 (s:Nat)),(5,slv (some g0) 0 ((digs B32 m).length+1) ((digs B32 m).length+1)),(13,x.v),(14,.int .i64 ((digs B32 m).length:Nat)),(15,.int .i64 (i:Nat))],[⟨x.b,161,NV .u32 (digs B32 m),x.n,false⟩,⟨some g0,161,NV .u32 (row ((digs B32 m).length+1) (shT m s i)),(digs B32 m).length+1,true⟩],(digs B32 m).length-i)) ⟨0,Nat.zero_le _⟩ ?_;rintro⟨i,hi⟩;(try dsimp only);refine A6 ?_;refine Cd ?_ ?_<;>intro hb1
 ·have hlt:i<(digs B32 m).length:=(by have:=of_decide_eq_true hb1;omega);have hx1:=B32_mod (m/B32^i);refine A7 ?_;refine Ix 0 (i) ?_;refine r_load1 0 (i) ti161 rfl rfl rfl rfl (NV_get (digs_get B32_two hlt)) ?_;refine A7 ?_;refine r_conv (r:=((m/B32^i%B32:Nat):Int)) u161 u163 rfl rfl rfl (c64 _ rfl (by omega)) ?_;refine A1 ?_;refine r_shift (r:=((shW m s i:Nat):Int)) rfl rfl rfl rfl (by omega) (congrArg some (shl_u _ _ rfl rfl (by omega) (shW_lt m s i hs))) ?_;refine A7 ?_;refine Ix 1 (i) ?_;refine r_load1 1 (i) ti161 rfl rfl rfl rfl (NV_get (row_get (by omega))) ?_;refine A1 ?_;refine r_conv (r:=((shW m s i%4294967296:Nat):Int)) u163 u161 rfl rfl rfl (c32 _ rfl) ?_;refine r_or (r:=((shT m s (i+1) i:Nat):Int)) rfl rfl rfl rfl (sh_or m s i hs) ?_;refine Ix 1 (i) ?_;refine r_store1 rfl 1 (i) [_,⟨some g0,161,_,_,true⟩] (NV .u32 (row ((digs B32 m).length+1) (shM m s i))) ti161 rfl rfl rfl rfl rfl rfl rfl rfl (by rw[NV_length,row_length];omega) (by rw[NV_set,row_set (g:=shM m s i) (fun j _=>rfl)]) rfl ?_;refine A5 ?_;refine Ar (((i+1:Nat):Int)) ?_;refine A1 ?_;refine r_shift (r:=((shW m s i/2^32:Nat):Int)) rfl rfl rfl rfl (by omega) (congrArg some (shr_u _ 32 rfl rfl (by omega))) ?_;refine r_conv (r:=((shW m s i/2^32%4294967296:Nat):Int)) u163 u161 rfl rfl rfl (c32 _ rfl) ?_;refine Ix 1 (i+1) ?_;refine r_store1 rfl 1 (i+1) [_,⟨some g0,161,_,_,true⟩] (NV .u32 (row ((digs B32 m).length+1) (shT m s (i+1)))) ti161 rfl rfl rfl rfl rfl rfl rfl rfl (by rw[NV_length,row_length];omega) (by rw[NV_set,row_set (fun j _=>shT_step m s i j hs)]) rfl ?_;refine A4 ?_;refine Ar (((i+1:Nat):Int)) ?_;refine A3 ?_;exact Nl ⟨i+1,hlt⟩
 ·have hge:i=(digs B32 m).length:=(by have:=of_decide_eq_false hb1;omega);subst hge;refine A12 ?_;refine at_end1 rfl (res_tmp rfl) (fun w hL=>⟨g0,?_,?_⟩)
  ·rfl
  ·rw[row_congr (fun j _=>shT_end m s j)] at hL;exact hL.pk [some 1]
end Go.Proofs.YtfijbadahkmhbaaGreatDoor
namespace Go.Via
open Go
theorem B32_succ(k:Nat):B32^(k+1)=B32^k*B32:=Nat.pow_succ ..
def GOK(Y W L g r:Nat):Prop:=g*(Y/B32^(L-1))+r=W/B32^(L-1)∧r<4294967296∧W/Y≤g∧g≤4294967297
theorem split3(V L:Nat)(hL:2≤L):V=(V/B32^(L-1)*B32+V/B32^(L-2)%B32)*B32^(L-2)+V%B32^(L-2):=by
 have h1:=Nat.div_add_mod V (B32^(L-2))
 have h2:=sho_w V (L-2)
 rw[show L-2+1=L-1 by omega] at h2
 rw[←h2,Nat.mul_comm];exact h1.symm
structure DvH(Y W L:Nat):Prop where
 hL:2≤L
 lo:B32^L≤2*Y
 hi:Y<B32^L
 w:W<Y*B32
theorem DvH.y1{Y W L:Nat}(h:DvH Y W L):2147483648≤Y/B32^(L-1)∧Y/B32^(L-1)<4294967296:=by
 have hp:=B32_pos (L-1)
 have e:B32^L=B32^(L-1)*B32:=by rw[←B32_succ,show L-1+1=L by have:=h.hL;omega]
 have h1:=h.lo
 have h2:=h.hi
 rw[e] at h1 h2
 refine⟨?_,?_⟩
 ·rw[Nat.le_div_iff_mul_le hp]
  have:B32^(L-1)*B32=2*(2147483648*B32^(L-1)):=by unfold B32;omega
  omega
 ·rw[Nat.div_lt_iff_lt_mul hp];rw[Nat.mul_comm] at h2;exact h2
theorem DvH.pos{Y W L:Nat}(h:DvH Y W L):0<Y:=by have:=h.lo;have:=B32_pos L;omega
theorem DvH.wlt{Y W L:Nat}(h:DvH Y W L):W<B32^(L+1):=by
 have:=Nat.mul_le_mul_right B32 (Nat.le_of_lt h.hi)
 rw[B32_succ];exact Nat.lt_of_lt_of_le h.w this
theorem DvH.high{Y W L:Nat}(h:DvH Y W L):W/B32^(L-1)<(Y/B32^(L-1)+1)*B32:=by
 refine high_le (B:=B32) (split3 Y L h.hL) (split3 W L h.hL) (Nat.mod_lt _ (B32_pos _)) (Nat.mod_lt _ (by decide)) (by rw[Nat.mul_comm];exact h.w)
theorem DvH.high64{Y W L:Nat}(h:DvH Y W L):W/B32^(L-1)<18446744073709551616:=by
 have h1:=h.wlt
 rw[Nat.div_lt_iff_lt_mul (B32_pos _)]
 have:B32^(L+1)=18446744073709551616*B32^(L-1):=by
  rw[show L+1=2+(L-1) by have:=h.hL;omega,Nat.pow_add];rfl
 omega
theorem DvH.q{Y W L:Nat}(h:DvH Y W L):W/Y<4294967296:=by
 rw[Nat.div_lt_iff_lt_mul h.pos,Nat.mul_comm];exact h.w
theorem g_start{Y W L:Nat}(h:DvH Y W L):GOK Y W L (W/B32^(L-1)/(Y/B32^(L-1))) (W/B32^(L-1)% (Y/B32^(L-1))):=by
 obtain⟨a1,a2⟩:=h.y1
 have a3:=Nat.mod_lt (W/B32^(L-1)) (show 0<Y/B32^(L-1) by omega)
 refine⟨by rw[Nat.mul_comm];exact Nat.div_add_mod _ _,by omega,?_,?_⟩
 ·exact guess_start (B:=B32) (B32_pos (L-2)) (split3 Y L h.hL) (split3 W L h.hL) (Nat.mod_lt _ (B32_pos _)) (Nat.mod_lt _ (by decide)) (by omega) h.pos
 ·have h1:=h.high
  have:W/B32^(L-1)/(Y/B32^(L-1))<4294967298:=by
   rw[Nat.div_lt_iff_lt_mul (by omega)]
   unfold B32 at*
   omega
  omega
theorem g_test{Y W L g r:Nat}(h:DvH Y W L)(hg:GOK Y W L g r)(ht:4294967296≤g∨r*2^32+W/B32^(L-2)%B32<g*(Y/B32^(L-2)%B32)):
 W/Y<g:=by
 rcases ht with ht|ht
 ·have:=h.q;omega
 ·exact guess_down (B:=B32) (B32_pos (L-2)) (split3 Y L h.hL) (split3 W L h.hL) (Nat.mod_lt _ (B32_pos _)) hg.1 h.pos ht
theorem g_dec{Y W L g r:Nat}(h:DvH Y W L)(hg:GOK Y W L g r)(hq:W/Y<g):(g-1)*(Y/B32^(L-1))+(r+Y/B32^(L-1))=W/B32^(L-1):=by
 have h0:0<g:=Nat.lt_of_le_of_lt (Nat.zero_le _) hq
 obtain⟨k,rfl⟩:∃k,g=k+1:=⟨g-1,by omega⟩
 have:=hg.1
 rw[Nat.add_mul] at this
 simp only[Nat.add_sub_cancel]
 omega
theorem g_next{Y W L g r:Nat}(h:DvH Y W L)(hg:GOK Y W L g r)(hq:W/Y<g)(hr:r+Y/B32^(L-1)<4294967296):GOK Y W L (g-1) (r+Y/B32^(L-1)):=
 ⟨g_dec h hg hq,hr,by omega,by have:=hg.2.2.2;omega⟩
theorem g_end1{Y W L g r:Nat}(h:DvH Y W L)(hg:GOK Y W L g r)(hB:g<4294967296)(ht:g*(Y/B32^(L-2)%B32)≤r*2^32+W/B32^(L-2)%B32):g≤W/Y+1:=by
 obtain⟨a1,a2⟩:=h.y1
 exact guess_end (B:=B32) (split3 Y L h.hL) (split3 W L h.hL) (Nat.mod_lt _ (B32_pos _)) (by omega) (Nat.mod_lt _ (by decide)) hg.1 h.pos (by unfold B32;omega) (.inl ht)
theorem g_end2{Y W L g r:Nat}(h:DvH Y W L)(hg:GOK Y W L g r)(hq:W/Y<g)(hr:4294967296≤r+Y/B32^(L-1)):g-1≤W/Y+1:=by
 obtain⟨a1,a2⟩:=h.y1
 have:=hg.2.2.2
 exact guess_end (B:=B32) (split3 Y L h.hL) (split3 W L h.hL) (Nat.mod_lt _ (B32_pos _)) (by omega) (Nat.mod_lt _ (by decide)) (g_dec h hg hq) h.pos (by unfold B32;omega) (.inr hr)
def gC(Y g i:Nat):Nat:=g*(Y%B32^i)/B32^i
def gS(Y g i:Nat):Nat:=gC Y g i+g*(Y/B32^i%B32)
theorem gC_zero(Y g:Nat):gC Y g 0=0:=by simp[gC,Nat.mod_one]
theorem gC_le(Y g i:Nat)(hg:g≤4294967296):gC Y g i≤4294967295:=by
 unfold gC
 have h1:=Nat.mod_lt Y (B32_pos i)
 have:g*(Y%B32^i)/B32^i<4294967296:=by
  rw[Nat.div_lt_iff_lt_mul (B32_pos i)]
  have h2:g*(Y%B32^i)≤4294967296*(Y%B32^i):=Nat.mul_le_mul_right _ hg
  omega
 omega
theorem gS_lt(Y g i:Nat)(hg:g≤4294967296):gS Y g i<18446744073709551616∧g*(Y/B32^i%B32)<18446744073709551616:=by
 unfold gS
 have h1:=gC_le Y g i hg
 have h2:=B32_mod (Y/B32^i)
 have h3:g*(Y/B32^i%B32)≤4294967296*4294967295:=Nat.mul_le_mul hg (by omega)
 omega
theorem gS_carry(Y g i:Nat):gS Y g i/2^32=gC Y g (i+1):=by
 show _/B32=_
 unfold gS gC
 rw[B32_succ,Nat.mod_mul,←Nat.div_div_eq_div_mul]
 congr 1
 have e:g*(Y%B32^i+B32^i*(Y/B32^i%B32))=g*(Y%B32^i)+B32^i*(g*(Y/B32^i%B32)):=by grind
 rw[e,Nat.add_mul_div_left _ _ (B32_pos i)]
theorem gS_low(Y g i:Nat):gS Y g i%4294967296=g*Y/B32^i%B32:=by
 show _%B32=_
 have e:g*Y=g*(Y%B32^i)+B32^i*(g*(Y/B32^i)):=by
  have h1:=Nat.mod_add_div Y (B32^i)
  conv=>lhs;rw[←h1]
  grind
 rw[e,Nat.add_mul_div_left _ _ (B32_pos i)]
 unfold gS gC
 generalize g*(Y%B32^i)/B32^i=c
 generalize Y/B32^i=p
 rw[Nat.add_mod,←Nat.mul_mod_mod,Nat.mod_mod,Nat.mul_mod_mod,←Nat.add_mod]
def dvD(Y W L g:Nat):Nat:=W+B32^(L+1)-g*Y
theorem dv_le{Y W L g:Nat}(h:DvH Y W L)(hg1:g≤W/Y+1):g*Y≤W+B32^(L+1):=by
 have h1:=Nat.mul_le_mul_right Y hg1
 have h2:=Nat.div_mul_le_self W Y
 rw[Nat.add_mul] at h1
 have h3:=h.hi
 have h4:B32^L≤B32^(L+1):=Nat.pow_le_pow_right (by decide) (by omega)
 omega
theorem dv_dig{W L i:Nat}(hi:i≤L):(W+B32^(L+1))/B32^i%B32=W/B32^i%B32:=by
 have e:B32^(L+1)=B32^i*(B32*B32^(L-i)):=by
  rw[←Nat.mul_assoc,←B32_succ,←Nat.pow_add,show i+1+(L-i)=L+1 by omega]
 rw[e,Nat.add_mul_div_left _ _ (B32_pos i),Nat.add_mul_mod_self_left]
def msT(X W D j i k:Nat):Nat:=if k<j then X/B32^k%B32 else if k<j+i then D/B32^(k-j)%B32 else W/B32^(k-j)%B32
theorem msT_at(X W D j i:Nat):msT X W D j i (i+j)=W/B32^i%B32:=by
 unfold msT;rw[if_neg (by omega),if_neg (by omega),show i+j-j=i by omega]
theorem msT_step(X W D j i k:Nat):msT X W D j (i+1) k=if k=i+j then D/B32^i%B32 else msT X W D j i k:=by
 unfold msT
 by_cases e:k=i+j
 ·subst e;rw[if_neg (by omega),if_pos (by omega),if_pos rfl,show i+j-j=i by omega]
 ·rw[if_neg e]
  by_cases c:k<j
  ·rw[if_pos c,if_pos c]
  ·rw[if_neg c,if_neg c]
   by_cases c2:k<j+i
   ·rw[if_pos c2,if_pos (by omega)]
   ·rw[if_neg c2,if_neg (by omega)]
def xw(X j V k:Nat):Nat:=if k<j then X/B32^k%B32 else V/B32^(k-j)%B32
def dvW(X Y j:Nat):Nat:=X/B32^(j+1)%Y*B32+X/B32^j%B32
theorem dvW_lt(X Y j:Nat)(hy:0<Y):dvW X Y j<Y*B32:=shoW_lt X Y j hy
theorem xw_start(X Y D j k:Nat):xw X (j+1) (X/B32^(j+1)%Y) k=msT X (dvW X Y j) D j 0 k:=by
 unfold xw msT dvW
 by_cases c:k<j
 ·rw[if_pos (by omega),if_pos c]
 ·rw[if_neg c,if_neg (by omega:¬k<j+0)]
  by_cases e:k=j
  ·subst e
   rw[if_pos (by omega),Nat.sub_self,Nat.pow_zero,Nat.div_one,Nat.mul_comm,Nat.mul_add_mod,Nat.mod_mod]
  ·rw[if_neg (by omega)]
   obtain⟨q,rfl⟩:∃q,k=j+1+q:=⟨k-j-1,by omega⟩
   rw[show j+1+q-(j+1)=q by omega,show j+1+q-j=q+1 by omega]
   have:(X/B32^(j+1)%Y*B32+X/B32^j%B32)/B32=X/B32^(j+1)%Y:=by
    rw[Nat.mul_comm,Nat.mul_add_div (by decide),Nat.div_eq_of_lt (Nat.mod_lt _ (by decide))];omega
   have e2:B32^(q+1)=B32*B32^q:=Nat.pow_succ'
   rw[e2,←Nat.div_div_eq_div_mul (X/B32^(j+1)%Y*B32+X/B32^j%B32),this]
theorem dvW_quo(X Y j:Nat)(hy:0<Y):dvW X Y j/Y=X/Y/B32^j%B32:=shoW_quo X Y j hy
theorem dvW_rem(X Y j:Nat)(hy:0<Y):dvW X Y j%Y=X/B32^j%Y:=shoW_rem X Y j hy
theorem ms_end{X Y W L g j k:Nat}(h:DvH Y W L)(hg:g=W/Y):msT X W (dvD Y W L g) j (L+1) k=xw X j (W%Y) k:=by
 unfold msT xw
 by_cases c:k<j
 ·rw[if_pos c,if_pos c]
 ·rw[if_neg c,if_neg c]
  have hD:dvD Y W L g=W%Y+B32^(L+1):=by
   unfold dvD;subst hg
   have:=Nat.div_add_mod W Y
   rw[Nat.mul_comm] at this;omega
  have hr:=Nat.mod_lt W h.pos
  by_cases c2:k<j+(L+1)
  ·rw[if_pos c2,hD,dv_dig (by omega)]
  ·rw[if_neg c2]
   have h1:B32^(L+1)≤B32^(k-j):=Nat.pow_le_pow_right (by decide) (by omega)
   have h2:=h.wlt
   have h3:=h.hi
   have h4:B32^L≤B32^(L+1):=Nat.pow_le_pow_right (by decide) (by omega)
   rw[Nat.div_eq_of_lt (by omega),Nat.div_eq_of_lt (by omega)]
def abT(X Y W D L j i k:Nat):Nat:=if k<j then X/B32^k%B32 else if k<j+i then(D+Y)/B32^(k-j)%B32 else if k<j+(L+1) then D/B32^(k-j)%B32 else W/B32^(k-j)%B32
theorem abT_zero(X Y W D L j k:Nat):msT X W D j (L+1) k=abT X Y W D L j 0 k:=by
 unfold msT abT
 by_cases c:k<j
 ·rw[if_pos c,if_pos c]
 ·rw[if_neg c,if_neg c,if_neg (by omega:¬k<j+0)]
theorem abT_at(X Y W D L j i:Nat)(hi:i≤L):abT X Y W D L j i (i+j)=D/B32^i%B32:=by
 unfold abT;rw[if_neg (by omega),if_neg (by omega),if_pos (by omega),show i+j-j=i by omega]
theorem abT_step(X Y W D L j i k:Nat):abT X Y W D L j (i+1) k=if k=i+j then addS D Y i%4294967296 else abT X Y W D L j i k:=by
 rw[addS_low]
 unfold abT
 by_cases e:k=i+j
 ·subst e;rw[if_neg (by omega),if_pos (by omega),if_pos rfl,show i+j-j=i by omega]
 ·rw[if_neg e]
  by_cases c:k<j
  ·rw[if_pos c,if_pos c]
  ·rw[if_neg c,if_neg c]
   by_cases c2:k<j+i
   ·rw[if_pos c2,if_pos (by omega)]
   ·rw[if_neg c2,if_neg (by omega)]
theorem ab_end{X Y W L g j k:Nat}(h:DvH Y W L)(hg:g=W/Y+1):abT X Y W (dvD Y W L g) L j (L+1) k=xw X j (W%Y) k:=by
 have e:dvD Y W L g+Y=dvD Y W L (W/Y):=by
  have h1:=dv_le h (g:=g) (by omega)
  unfold dvD;subst hg
  rw[Nat.add_mul] at h1 ⊢;omega
 rw[←ms_end (X:=X) (j:=j) (k:=k) h rfl,←e]
 unfold abT msT
 by_cases c:k<j
 ·rw[if_pos c,if_pos c]
 ·rw[if_neg c,if_neg c]
  by_cases c2:k<j+(L+1)
  ·rw[if_pos c2,if_pos c2]
  ·rw[if_neg c2,if_neg c2,if_neg c2]
theorem ab_low(D Y L:Nat)(hY:Y<B32^L):(D/B32^L%B32+addC D Y L%4294967296)%4294967296=addS D Y L%4294967296:=by
 rw[addS_eq,show Y/B32^L%B32=0 by rw[Nat.div_eq_of_lt hY];rfl]
 omega
theorem dv_neg{Y W L g:Nat}(h:DvH Y W L)(h1:g≤W/Y+1)(h2:W/Y≤g)(hb:subB (W+B32^(L+1)) (g*Y) (L+1)=1):g=W/Y+1:=by
 rcases Nat.lt_or_ge (W/Y) g with c|c
 ·omega
 ·exfalso
  have e:g=W/Y:=by omega
  subst e
  unfold subB at hb
  have h3:=Nat.div_mul_le_self W Y
  have h4:=h.wlt
  rw[Nat.add_mod_right,Nat.mod_eq_of_lt h4,Nat.mod_eq_of_lt (by omega),if_neg (by omega)] at hb
  cases hb
theorem dv_pos{Y W L g:Nat}(h:DvH Y W L)(h1:g≤W/Y+1)(h2:W/Y≤g)(hB:g≤4294967296)(hb:subB (W+B32^(L+1)) (g*Y) (L+1)=0):g=W/Y:=by
 rcases Nat.lt_or_ge (W/Y) g with c|c
 ·exfalso
  have e:g=W/Y+1:=by omega
  unfold subB at hb
  have h3:=Nat.div_add_mod W Y
  have h4:=h.wlt
  have h5:=Nat.mod_lt W h.pos
  have h6:g*Y<B32^(L+1):=by
   rw[B32_succ,Nat.mul_comm]
   exact Nat.mul_lt_mul_of_lt_of_le h.hi hB (by decide)
  rw[Nat.add_mod_right,Nat.mod_eq_of_lt h4,Nat.mod_eq_of_lt h6] at hb
  have h7:g*Y=Y*(W/Y)+Y:=by rw[e,Nat.add_mul,Nat.mul_comm,Nat.one_mul]
  rw[if_pos (by omega)] at hb
  cases hb
 ·omega
theorem gC_last{Y L g:Nat}(hY:Y<B32^L)(hB:g≤4294967296):gC Y g L=g*Y/B32^L%B32:=by
 have h1:gC Y g L=g*Y/B32^L:=by unfold gC;rw[Nat.mod_eq_of_lt hY]
 have h2:=gC_le Y g L hB
 rw[h1] at h2 ⊢
 exact(Nat.mod_eq_of_lt (by unfold B32 at*;omega)).symm
theorem norm_s{n:Nat}(h0:n≠0):∃s,s<32∧(32-(Lib.bitLen (n/B32^((digs B32 n).length-1)%B32):Int))=((s:Nat):Int)∧B32^(digs B32 n).length≤2*(n*2^s)∧n*2^s<B32^(digs B32 n).length:=by
 have hlt:=lt_pow_digs B32_two n
 have hl:0<(digs B32 n).length:=by
  rcases Nat.eq_zero_or_pos (digs B32 n).length with h|h
  ·exact absurd ((digs_eq_nil B32_two).1 (List.eq_nil_of_length_eq_zero h)) h0
  ·exact h
 generalize hL:(digs B32 n).length=L at*
 obtain⟨k,rfl⟩:∃k,L=k+1:=⟨L-1,by omega⟩
 simp only[Nat.add_sub_cancel]
 have hk:B32^k≤n:=by
  rcases Nat.lt_or_ge n (B32^k) with h|h
  ·have:=digs_length_le B32_two h;omega
  ·exact h
 have ht:n/B32^k<B32:=by rw[Nat.div_lt_iff_lt_mul (B32_pos k),Nat.mul_comm,←B32_succ];exact hlt
 have ht0:0<n/B32^k:=Nat.div_pos hk (B32_pos k)
 rw[Nat.mod_eq_of_lt ht]
 obtain⟨b1,b2,b3⟩:=bitLen_bounds (x:=n/B32^k) (Nat.lt_trans ht (by decide)) (by omega)
 have b4:Lib.bitLen (n/B32^k)≤32:=Lib.bitLen_le _ 32 (by omega) ht
 generalize Lib.bitLen (n/B32^k)=b at*
 refine⟨32-b,by omega,by omega,?_,?_⟩
 ·have h1:2^(b-1)*B32^k≤n:=by
   have:=Nat.mul_le_mul_right (B32^k) b2
   exact Nat.le_trans this (Nat.div_mul_le_self _ _)
  have h2:=Nat.mul_le_mul_right (2^(32-b)) h1
  have h3:2^(b-1)*B32^k*2^(32-b)*2=B32^(k+1):=by
   have e:2^(b-1)*2^(32-b)*2=B32:=by
    rw[←Nat.pow_add,←Nat.pow_succ,show(b-1+(32-b)).succ=32 by omega];rfl
   rw[B32_succ,←e];grind
  omega
 ·have h1:n<2^b*B32^k:=by
   exact Nat.lt_mul_of_div_lt b3 (B32_pos k)
  have h2:=(Nat.mul_lt_mul_right (a:=2^(32-b)) (Nat.pow_pos (by omega))).2 h1
  have h3:2^b*B32^k*2^(32-b)=B32^(k+1):=by
   have e:2^b*2^(32-b)=B32:=by rw[←Nat.pow_add,show b+(32-b)=32 by omega];rfl
   rw[B32_succ,←e];grind
  omega
theorem dv_init{m n s:Nat}(hs:s<32)(hlen:(digs B32 n).length≤(digs B32 m).length)(h1:B32^(digs B32 n).length≤2*(n*2^s)):m*2^s/B32^((digs B32 m).length+1-(digs B32 n).length)<n*2^s:=by
 rw[Nat.div_lt_iff_lt_mul (B32_pos _)]
 have h2:=lt_pow_digs B32_two m
 have h3:=two_pow_le hs
 have h4:m*2^s≤m*2147483648:=Nat.mul_le_mul_left _ h3
 have h5:B32^(digs B32 n).length*B32^((digs B32 m).length+1-(digs B32 n).length)=B32^(digs B32 m).length*B32:=by
  rw[←Nat.pow_add,←B32_succ];congr 1;omega
 have h6:=Nat.mul_le_mul_right (B32^((digs B32 m).length+1-(digs B32 n).length)) h1
 rw[h5,Nat.mul_assoc] at h6
 have h7:B32^(digs B32 m).length*B32=2*(2147483648*B32^(digs B32 m).length):=by unfold B32;omega
 omega
theorem xw_init{X Y M k:Nat}(h:X/B32^M<Y):shR X k=xw X M (X/B32^M%Y) k:=by
 unfold xw shR
 rw[Nat.mod_eq_of_lt h]
 split
 ·rfl
 ·rw[Nat.div_div_eq_div_mul,←Nat.pow_add,show M+(k-M)=k by omega]
theorem xw_load{X Y W j:Nat}(hW:dvW X Y j=W)(k:Nat):xw X (j+1) (X/B32^(j+1)%Y) (k+j)=W/B32^k%B32:=by
 rw[xw_start X Y 0 j,hW]
 unfold msT
 rw[if_neg (by omega),if_neg (by omega),show k+j-j=k by omega]
theorem xw_ms{X Y W j:Nat}(hW:dvW X Y j=W)(D k:Nat):xw X (j+1) (X/B32^(j+1)%Y) k=msT X W D j 0 k:=by
 rw[xw_start X Y D j,hW]
theorem DvH.whigh{Y W L:Nat}(h:DvH Y W L):2^32*(W/B32^L%B32)+W/B32^(L-1)%B32=W/B32^(L-1):=by
 have h1:=sho_w W (L-1)
 rw[show L-1+1=L by have:=h.hL;omega] at h1
 have h2:W/B32^L<B32:=by rw[Nat.div_lt_iff_lt_mul (B32_pos L),Nat.mul_comm,←B32_succ];exact h.wlt
 rw[Nat.mod_eq_of_lt h2,Nat.mul_comm];exact h1.symm
theorem DvH.ytop{Y W L:Nat}(h:DvH Y W L):shR Y (L-1)=Y/B32^(L-1):=by
 unfold shR;exact Nat.mod_eq_of_lt h.y1.2
theorem mul64{p q:Nat}(hp:p<4294967296)(hq:q<4294967296):p*q<18446744073709551616:=by
 have:p*q≤4294967295*4294967295:=Nat.mul_le_mul (by omega) (by omega)
 omega
theorem ms_neg{Y W L g i:Nat}(h:DvH Y W L)(hg1:g≤W/Y+1)(hi:i≤L)(hd:W/B32^i%B32<g*Y/B32^i%B32+subB (W+B32^(L+1)) (g*Y) i):
 W/B32^i%B32+4294967296=dvD Y W L g/B32^i%B32+g*Y/B32^i%B32+subB (W+B32^(L+1)) (g*Y) i∧subB (W+B32^(L+1)) (g*Y) (i+1)=1:=by
 have:=sub_neg (i:=i) (dv_le h hg1) (by rw[dv_dig hi];exact hd)
 rw[dv_dig hi] at this;exact this
theorem ms_pos{Y W L g i:Nat}(h:DvH Y W L)(hg1:g≤W/Y+1)(hi:i≤L)(hd:¬W/B32^i%B32<g*Y/B32^i%B32+subB (W+B32^(L+1)) (g*Y) i):
 W/B32^i%B32=dvD Y W L g/B32^i%B32+g*Y/B32^i%B32+subB (W+B32^(L+1)) (g*Y) i∧subB (W+B32^(L+1)) (g*Y) (i+1)=0:=by
 have:=sub_pos (i:=i) (dv_le h hg1) (by rw[dv_dig hi];exact hd)
 rw[dv_dig hi] at this;exact this
theorem ms_u32{Y W L g i:Nat}(h:DvH Y W L)(hg1:g≤W/Y+1)(hi:i≤L):IntKind.u32.wrap (((W/B32^i%B32:Nat):Int)-((subB (W+B32^(L+1)) (g*Y) i:Nat):Int)-((g*Y/B32^i%B32:Nat):Int))=((dvD Y W L g/B32^i%B32:Nat):Int):=by
 rw[wu32]
 have hD:=B32_mod (dvD Y W L g/B32^i)
 by_cases c:W/B32^i%B32<g*Y/B32^i%B32+subB (W+B32^(L+1)) (g*Y) i
 ·have:=(ms_neg h hg1 hi c).1
  generalize W/B32^i%B32=w at*
  generalize g*Y/B32^i%B32=p at*
  generalize dvD Y W L g/B32^i%B32=d at*
  generalize subB (W+B32^(L+1)) (g*Y) i=b at*
  omega
 ·have:=(ms_pos h hg1 hi c).1
  generalize W/B32^i%B32=w at*
  generalize g*Y/B32^i%B32=p at*
  generalize dvD Y W L g/B32^i%B32=d at*
  generalize subB (W+B32^(L+1)) (g*Y) i=b at*
  omega
def outT(X Y p k:Nat):Nat:=if k<p then 0 else X/Y/B32^k%B32
theorem outT_step(X Y j k:Nat):outT X Y j k=if k=j then X/Y/B32^j%B32 else outT X Y (j+1) k:=by
 unfold outT
 by_cases e:k=j
 ·subst e;rw[if_neg (by omega),if_pos rfl]
 ·rw[if_neg e]
  by_cases c:k<j
  ·rw[if_pos c,if_pos (by omega)]
  ·rw[if_neg c,if_neg (by omega)]
theorem outT_lt(X Y p k:Nat):outT X Y p k<B32:=by unfold outT;split;decide;exact B32_mod _
theorem out_val{m n s M:Nat}(h0:n≠0)(h:m*2^s/B32^M<n*2^s):val B32 (row M (outT (m*2^s) (n*2^s) 0))=m/n:=by
 have e:m*2^s/(n*2^s)=m/n:=Nat.mul_div_mul_right m n (Nat.pow_pos (by omega))
 rw[row_congr (g:=fun j=>m/n/B32^j%B32) (fun j _=>by unfold outT;rw[if_neg (by omega),e]),val_row B32 (by decide),Nat.mod_eq_of_lt]
 have hp:0<n*2^s:=Nat.mul_pos (by omega) (Nat.pow_pos (by omega))
 rw[←e,Nat.div_lt_iff_lt_mul hp]
 rw[Nat.div_lt_iff_lt_mul (B32_pos M)] at h
 rw[Nat.mul_comm (n*2^s) (B32^M)] at h;exact h
theorem x0_load(m n s k:Nat):xw (m*2^s) 0 (m*2^s/B32^0% (n*2^s)) k=m%n*2^s/B32^k%B32:=by
 unfold xw
 rw[if_neg (by omega),Nat.sub_zero,Nat.pow_zero,Nat.div_one,Nat.mul_mod_mul_right]
def restT(r i k:Nat):Nat:=if k<i then r/B32^k%B32 else 0
theorem restT_zero(r k:Nat):restT r 0 k=0:=by simp[restT]
theorem restT_step(r i k:Nat):restT r (i+1) k=if k=i then r/B32^i%B32 else restT r i k:=by
 unfold restT
 by_cases e:k=i
 ·subst e;rw[if_pos (by omega),if_pos rfl]
 ·rw[if_neg e]
  by_cases c:k<i
  ·rw[if_pos c,if_pos (by omega)]
  ·rw[if_neg c,if_neg (by omega)]
theorem restT_lt(r i k:Nat):restT r i k<B32:=by unfold restT;split;exact B32_mod _;decide
theorem rest_val{m n:Nat}(h0:n≠0):val B32 (row (digs B32 n).length (restT (m%n) (digs B32 n).length))=m%n:=by
 rw[row_congr (g:=fun j=>m%n/B32^j%B32) (fun j hj=>by unfold restT;rw[if_pos hj]),val_row B32 (by decide),Nat.mod_eq_of_lt]
 exact Nat.lt_trans (Nat.mod_lt _ (by omega)) (lt_pow_digs B32_two n)
theorem back_or(V i:Nat):2^32*(V/B32^(i+1)%B32)+V/B32^i%B32=V/B32^i% (B32*B32):=by
 rw[Nat.mod_mul,B32_succ,←Nat.div_div_eq_div_mul]
 show B32*_+_=_
 omega
theorem back_lt(V i:Nat):V/B32^i% (B32*B32)<18446744073709551616:=Nat.mod_lt _ (by decide)
theorem back_shr{r s i:Nat}(hs:s<32):r*2^s/B32^i% (B32*B32)/2^s%4294967296=r/B32^i%B32:=by
 show _%B32=_
 have hp:0<2^s:=Nat.pow_pos (by omega)
 have e:B32*B32=2^s*(B32*2^(32-s)):=by
  have:=B32_two_pow hs
  conv=>lhs;rw[this]
  rw[←this];conv=>lhs;arg 1;rw[this]
  grind
 rw[e,Nat.mod_mul,Nat.add_mul_div_left _ _ hp,Nat.div_eq_of_lt (Nat.mod_lt _ hp),Nat.zero_add]
 have e2:r*2^s/B32^i/2^s=r/B32^i:=by
  rw[Nat.div_div_eq_div_mul,Nat.mul_comm (B32^i),←Nat.div_div_eq_div_mul,Nat.mul_div_cancel _ hp]
 rw[e2,Nat.mod_mul_right_mod]
theorem gS_cast(Y g i:Nat):((gC Y g i:Nat):Int)+((g*(Y/B32^i%B32):Nat):Int)=((gS Y g i:Nat):Int):=by unfold gS;omega
theorem addS_cast(D Y i:Nat):((addC D Y i:Nat):Int)+((D/B32^i%B32+Y/B32^i%B32:Nat):Int)=((addS D Y i:Nat):Int):=by rw[addS_eq];omega
theorem cmpN_false{m n:Nat}(h:decide (cmpN m n<0)=false):n≤m:=by
 have:=of_decide_eq_false h;unfold cmpN at this
 rcases Nat.lt_or_ge m n with c|c
 ·rw[if_pos c] at this;exact absurd (by decide) this
 ·exact c
theorem cmpN_true{m n:Nat}(h:decide (cmpN m n<0)=true):m<n:=by
 have:=of_decide_eq_true h;unfold cmpN at this
 rcases Nat.lt_or_ge m n with c|c
 ·exact c
 ·rw[if_neg (by omega)] at this
  split at this<;>exact absurd this (by decide)
theorem dig_pos{n:Nat}(h0:n≠0):0<(digs B32 n).length:=by
 rcases Nat.eq_zero_or_pos (digs B32 n).length with h|h
 ·exact absurd ((digs_eq_nil B32_two).1 (List.eq_nil_of_length_eq_zero h)) h0
 ·exact h
theorem one_dig{n:Nat}(h:(digs B32 n).length=1):n<4294967296:=by have:=lt_pow_digs B32_two n;rw[h] at this;exact this
theorem digs_one{n:Nat}(h1:(digs B32 n).length=1)(hn:n<4294967296):(digs B32 n)[0]? =some n:=by
 rw[digs_get B32_two (by omega),Nat.pow_zero,Nat.div_one]
 exact congrArg some (Nat.mod_eq_of_lt hn)
end Go.Via
