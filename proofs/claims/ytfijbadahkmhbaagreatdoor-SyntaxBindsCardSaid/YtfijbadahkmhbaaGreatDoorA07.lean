/-
  Part 7 (chapter 43): lemmas, walks. Each theorem states its own conditions.
-/
import Derived.Defers
import Derived.Lib.AppendStr
import Derived.Lib.UnsafeStr
import Derived.Lib.Builder
import Derived.Laws.Externs
import Derived.Laws.Concat
import Derived.Laws.Strings2
import Derived.Test.YtfijbadahkmhbaaGreatDoorA03
import Derived.Test.YtfijbadahkmhbaaGreatDoorA04
import Derived.Test.YtfijbadahkmhbaaGreatDoorA05
import Derived.Test.YtfijbadahkmhbaaGreatDoorA06
set_option linter.unusedVariables false
set_option linter.unusedSimpArgs false
set_option maxRecDepth 20000
set_option maxHeartbeats 20000000
namespace Go.Proofs.YtfijbadahkmhbaaGreatDoor
open Go Go.RowKit Go.Via
theorem c_integer_mul(m n:Nat)(hm:nb m≤67108864)(hn:nb n≤67108864):PCall Tryz.prog 197 #[.string (mag m),.string (mag n)] (.string (mag (m*n))):=by
 have hdm:=dig_len_le hm;have hdn:=dig_len_le hn;refine⟨by kernel_rfl,fun w=>?_⟩;refine cB2 97 Tryz.func197 (LRel.nil w) ?_;refine A10 ?_;refine Pc (c_integer_words _ _) ?_;refine A14 ?_;refine Cd ?_ ?_<;>intro hb0
 ·obtain⟨hw1,hw2,hw3,hw4⟩:=words_T hb0;refine at_know 5 (.int .u64 (m:Nat)) rfl (by rw[if_pos hw3]) ?_;refine at_know 6 (.int .u64 (n:Nat)) rfl (by rw[if_pos hw4]) ?_;refine A4 ?_;refine Pc (c_math_bits_Mul64 m n hw1 hw2) ?_;refine A13 ?_;refine Cd ?_ ?_<;>intro hb1
  ·have hs:=mul_small (m:=m) (n:=n) (eq_of_beq hb1);refine A3 ?_;refine r_pcall [_] rfl rfl rfl (c_integer_magnitude _ (by omega)) ?_;refine A5 ?_;refine E1 fun w hL=>⟨?_,hL.below⟩;rw[hs]
  ·refine A5 ?_;refine r_scall [_] [] rfl rfl rfl (c_integer_digits m (by omega)) trivial rfl (.inr fun x b hb=>by rw[List.mem_singleton.1 hb]) (fun g0=>?_);refine A1 ?_;refine r_scall [_] [] rfl rfl rfl (c_integer_digits n (by omega)) trivial rfl (.inr fun x b hb=>by rw[List.mem_singleton.1 hb]) (fun g1=>?_);refine A10 ?_;refine Ar ((((digs B32 m).length+(digs B32 n).length:Nat):Int)) ?_;refine Ar (((((digs B32 m).length+(digs B32 n).length+1):Nat):Int)) ?_;refine q_makeSlice (c:=((digs B32 m).length+(digs B32 n).length+1)) (NV .u32 (row ((digs B32 m).length+(digs B32 n).length+1) (mulR m n 0))) (fun g=>[_,_,⟨some g,161,_,_,true⟩]) u174 el161 rfl rfl rfl rfl rfl rfl (by omega) (by rw[row_congr (g:=fun _=>0) (fun j _=>mulR_zero m n j),row_zero,NV_replicate]) (fun _=>rfl) (fun g2=>?_);refine A12 ?_;refine El (ι:={i:Nat // i≤(digs B32 m).length}) (fun⟨i,hi⟩=>([(11,slv (some g1) 0 (digs B32 n).length (digs B32 n).length),(12,slv (some g2) 0 ((digs B32 m).length+(digs B32 n).length+1) ((digs B32 m).length+(digs B32 n).length+1)),(46,slv (some g0) 0 (digs B32 m).length (digs B32 m).length),(47,.int .i64 ((digs B32 m).length:Nat)),(48,.int .i64 (i:Nat))],[⟨some g0,161,NV .u32 (digs B32 m),(digs B32 m).length,true⟩,⟨some g1,161,NV .u32 (digs B32 n),(digs B32 n).length,true⟩,⟨some g2,161,NV .u32 (row ((digs B32 m).length+(digs B32 n).length+1) (mulR m n i)),((digs B32 m).length+(digs B32 n).length+1),true⟩],(digs B32 m).length-i)) ⟨0,Nat.zero_le _⟩ ?_;rintro⟨i,hi⟩;(try dsimp only);refine A6 ?_;refine Cd ?_ ?_<;>intro hb3
   ·have hlt:i<(digs B32 m).length:=(by have:=of_decide_eq_true hb3;omega);refine A7 ?_;refine Ix 0 (i) ?_;refine r_load1 0 (i) ti161 rfl rfl rfl rfl (NV_get (digs_get B32_two hlt)) ?_;refine A18 ?_;refine El (ι:={k:Nat // k≤(digs B32 n).length}) (fun⟨k,hk5⟩=>([(11,slv (some g1) 0 (digs B32 n).length (digs B32 n).length),(12,slv (some g2) 0 ((digs B32 m).length+(digs B32 n).length+1) ((digs B32 m).length+(digs B32 n).length+1)),(46,slv (some g0) 0 (digs B32 m).length (digs B32 m).length),(47,.int .i64 ((digs B32 m).length:Nat)),(48,.int .i64 (i:Nat)),(13,.int .i64 (i:Nat)),(14,.int .u32 (m/B32^i%B32:Nat)),(15,.int .u64 (mulC m n i k:Nat)),(54,.int .i64 ((digs B32 n).length:Nat)),(55,.int .i64 (k:Nat))],[⟨some g0,161,NV .u32 (digs B32 m),(digs B32 m).length,true⟩,⟨some g1,161,NV .u32 (digs B32 n),(digs B32 n).length,true⟩,⟨some g2,161,NV .u32 (row ((digs B32 m).length+(digs B32 n).length+1) (mulT m n i k)),((digs B32 m).length+(digs B32 n).length+1),true⟩],(digs B32 n).length-k)) ⟨0,Nat.zero_le _⟩ ?_ (ht:=⟨rfl,rfl,rfl,rfl,rfl,rfl,rfl,(look_val rfl (by rw[mulC_zero];rfl)),rfl,rfl,trivial⟩) (hL:=(weak_eq (by rw[row_congr (fun j _=>(mulT_zero m n i j).symm)])));rintro⟨k,hk5⟩;(try dsimp only);refine A6 ?_;refine Cd ?_ ?_<;>intro hb5
    ·have hk:k<(digs B32 n).length:=(by have:=of_decide_eq_true hb5;omega);have hc1:=mulC_lt m n i k;have hs1:=mulS_lt m n i k;have hv1:=B32_mod (mulV m n i/B32^(i+k));have hx1:=B32_mod (m/B32^i);have hy1:=B32_mod (n/B32^k);have hd1:=dmul_le (m/B32^i) (n/B32^k);have hc2:mulC m n i k<4294967296:=hc1;refine A11 ?_;refine at_drawnI [] mixed (by kernel_rfl) (by kernel_rfl) ?_;refine A4 ?_;refine Ar (((i+k:Nat):Int)) ?_;refine Ix 2 (i+k) ?_;refine r_load1 2 (i+k) ti161 rfl rfl rfl rfl (NV_get ((row_get (by omega)).trans (by rw[mulT_at]))) ?_;refine r_conv (r:=((mulV m n i/B32^(i+k)%B32:Nat):Int)) u161 u163 rfl rfl rfl (c64 _ rfl (by omega)) ?_;refine A1 ?_;refine r_conv (r:=((m/B32^i%B32:Nat):Int)) u161 u163 rfl rfl rfl (c64 _ rfl (by omega)) ?_;refine A2 ?_;refine Ix 1 (k) ?_;refine r_load1 1 (k) ti161 rfl rfl rfl rfl (NV_get (digs_get B32_two hk)) ?_;refine r_conv (r:=((n/B32^k%B32:Nat):Int)) u161 u163 rfl rfl rfl (c64 _ rfl (by omega)) ?_;refine r_arith (r:=((m/B32^i%B32*(n/B32^k%B32):Nat):Int)) rfl rfl rfl rfl (congrArg some (c64 _ (Int.natCast_mul _ _).symm (by omega))) ?_;refine r_arith (r:=((mulV m n i/B32^(i+k)%B32+m/B32^i%B32*(n/B32^k%B32):Nat):Int)) rfl rfl rfl rfl (congrArg some (c64 _ (by rw[Int.natCast_add]) (mulS_lt1 m n i k))) ?_;refine r_arith (r:=((mulS m n i k:Nat):Int)) rfl rfl rfl rfl (congrArg some (c64 _ (mulS_cast m n i k) (mulS_lt m n i k))) ?_;refine A7 ?_;refine Ar (((i+k:Nat):Int)) ?_;refine A1 ?_;refine r_conv (r:=((mulS m n i k%4294967296:Nat):Int)) u163 u161 rfl rfl rfl (c32 _ rfl) ?_;refine A1 ?_;refine r_shift (r:=((mulC m n i (k+1):Nat):Int)) rfl rfl rfl rfl (by omega) (congrArg some ((shr_u _ 32 rfl rfl (by omega)).trans (by rw[mulS_carry]))) ?_;refine Ix 2 (i+k) ?_;refine r_store1 rfl 2 (i+k) [_,_,⟨some g2,161,_,_,true⟩] (NV .u32 (row ((digs B32 m).length+(digs B32 n).length+1) (mulT m n i (k+1)))) ti161 rfl rfl rfl rfl rfl rfl rfl rfl (by rw[NV_length,row_length];omega) (by rw[NV_set,row_set (fun j _=>mulT_step m n i k j)]) rfl ?_;refine A5 ?_;refine Ar (((k+1:Nat):Int)) ?_;refine A3 ?_;exact Nl ⟨k+1,hk⟩
    ·have hk4:k=(digs B32 n).length:=(by have:=of_decide_eq_false hb5;omega);subst hk4;refine A10 ?_;refine Ar (((i+(digs B32 n).length:Nat):Int)) ?_;refine A1 ?_;refine r_conv (r:=((mulC m n i (digs B32 n).length%4294967296:Nat):Int)) u163 u161 rfl rfl rfl (c32 _ rfl) ?_;refine Ix 2 (i+(digs B32 n).length) ?_;refine r_store1 rfl 2 (i+(digs B32 n).length) [_,_,⟨some g2,161,_,_,true⟩] (NV .u32 (row ((digs B32 m).length+(digs B32 n).length+1) (mulR m n (i+1)))) ti161 rfl rfl rfl rfl rfl rfl rfl rfl (by rw[NV_length,row_length];omega) (by rw[NV_set,row_set (fun j _=>mulT_last m n i j)]) rfl ?_;refine A4 ?_;refine Ar (((i+1:Nat):Int)) ?_;refine A3 ?_;exact Nl ⟨i+1,hlt⟩
   ·have hge:i=(digs B32 m).length:=(by have:=of_decide_eq_false hb3;omega);subst hge;refine A8 ?_;refine r_scall0 [_] [2] rfl rfl rfl (c_nat_bytes (row ((digs B32 m).length+(digs B32 n).length+1) (mulR m n (digs B32 m).length)) (row_lt fun j=>mulR_lt _ _ _ j) (by rw[row_length];omega) (row_length _ _) ⟨some g2,_,_,Nat.le_refl _⟩) ⟨⟨_,rfl,le_share⟩,trivial⟩ rfl ?_;refine A4 ?_;refine E1 fun w hL=>⟨?_,hL.below⟩;rw[mulR_end]
 ·refine A5 ?_;refine r_scall [_] [] rfl rfl rfl (c_integer_digits m (by omega)) trivial rfl (.inr fun x b hb=>by rw[List.mem_singleton.1 hb]) (fun g0=>?_);refine A1 ?_;refine r_scall [_] [] rfl rfl rfl (c_integer_digits n (by omega)) trivial rfl (.inr fun x b hb=>by rw[List.mem_singleton.1 hb]) (fun g1=>?_);refine A10 ?_;refine Ar ((((digs B32 m).length+(digs B32 n).length:Nat):Int)) ?_;refine Ar (((((digs B32 m).length+(digs B32 n).length+1):Nat):Int)) ?_;refine q_makeSlice (c:=((digs B32 m).length+(digs B32 n).length+1)) (NV .u32 (row ((digs B32 m).length+(digs B32 n).length+1) (mulR m n 0))) (fun g=>[_,_,⟨some g,161,_,_,true⟩]) u174 el161 rfl rfl rfl rfl rfl rfl (by omega) (by rw[row_congr (g:=fun _=>0) (fun j _=>mulR_zero m n j),row_zero,NV_replicate]) (fun _=>rfl) (fun g2=>?_);refine A12 ?_;refine El (ι:={i:Nat // i≤(digs B32 m).length}) (fun⟨i,hi⟩=>([(11,slv (some g1) 0 (digs B32 n).length (digs B32 n).length),(12,slv (some g2) 0 ((digs B32 m).length+(digs B32 n).length+1) ((digs B32 m).length+(digs B32 n).length+1)),(46,slv (some g0) 0 (digs B32 m).length (digs B32 m).length),(47,.int .i64 ((digs B32 m).length:Nat)),(48,.int .i64 (i:Nat))],[⟨some g0,161,NV .u32 (digs B32 m),(digs B32 m).length,true⟩,⟨some g1,161,NV .u32 (digs B32 n),(digs B32 n).length,true⟩,⟨some g2,161,NV .u32 (row ((digs B32 m).length+(digs B32 n).length+1) (mulR m n i)),((digs B32 m).length+(digs B32 n).length+1),true⟩],(digs B32 m).length-i)) ⟨0,Nat.zero_le _⟩ ?_;rintro⟨i,hi⟩;(try dsimp only);refine A6 ?_;refine Cd ?_ ?_<;>intro hb2
  ·have hlt:i<(digs B32 m).length:=(by have:=of_decide_eq_true hb2;omega);refine A7 ?_;refine Ix 0 (i) ?_;refine r_load1 0 (i) ti161 rfl rfl rfl rfl (NV_get (digs_get B32_two hlt)) ?_;refine A18 ?_;refine El (ι:={k:Nat // k≤(digs B32 n).length}) (fun⟨k,hk5⟩=>([(11,slv (some g1) 0 (digs B32 n).length (digs B32 n).length),(12,slv (some g2) 0 ((digs B32 m).length+(digs B32 n).length+1) ((digs B32 m).length+(digs B32 n).length+1)),(46,slv (some g0) 0 (digs B32 m).length (digs B32 m).length),(47,.int .i64 ((digs B32 m).length:Nat)),(48,.int .i64 (i:Nat)),(13,.int .i64 (i:Nat)),(14,.int .u32 (m/B32^i%B32:Nat)),(15,.int .u64 (mulC m n i k:Nat)),(54,.int .i64 ((digs B32 n).length:Nat)),(55,.int .i64 (k:Nat))],[⟨some g0,161,NV .u32 (digs B32 m),(digs B32 m).length,true⟩,⟨some g1,161,NV .u32 (digs B32 n),(digs B32 n).length,true⟩,⟨some g2,161,NV .u32 (row ((digs B32 m).length+(digs B32 n).length+1) (mulT m n i k)),((digs B32 m).length+(digs B32 n).length+1),true⟩],(digs B32 n).length-k)) ⟨0,Nat.zero_le _⟩ ?_ (ht:=⟨rfl,rfl,rfl,rfl,rfl,rfl,rfl,(look_val rfl (by rw[mulC_zero];rfl)),rfl,rfl,trivial⟩) (hL:=(weak_eq (by rw[row_congr (fun j _=>(mulT_zero m n i j).symm)])));rintro⟨k,hk5⟩;(try dsimp only);refine A6 ?_;refine Cd ?_ ?_<;>intro hb4
   ·have hk:k<(digs B32 n).length:=(by have:=of_decide_eq_true hb4;omega);have hc1:=mulC_lt m n i k;have hs1:=mulS_lt m n i k;have hv1:=B32_mod (mulV m n i/B32^(i+k));have hx1:=B32_mod (m/B32^i);have hy1:=B32_mod (n/B32^k);have hd1:=dmul_le (m/B32^i) (n/B32^k);have hc2:mulC m n i k<4294967296:=hc1;refine A11 ?_;refine at_drawnI [] mixed (by kernel_rfl) (by kernel_rfl) ?_;refine A4 ?_;refine Ar (((i+k:Nat):Int)) ?_;refine Ix 2 (i+k) ?_;refine r_load1 2 (i+k) ti161 rfl rfl rfl rfl (NV_get ((row_get (by omega)).trans (by rw[mulT_at]))) ?_;refine r_conv (r:=((mulV m n i/B32^(i+k)%B32:Nat):Int)) u161 u163 rfl rfl rfl (c64 _ rfl (by omega)) ?_;refine A1 ?_;refine r_conv (r:=((m/B32^i%B32:Nat):Int)) u161 u163 rfl rfl rfl (c64 _ rfl (by omega)) ?_;refine A2 ?_;refine Ix 1 (k) ?_;refine r_load1 1 (k) ti161 rfl rfl rfl rfl (NV_get (digs_get B32_two hk)) ?_;refine r_conv (r:=((n/B32^k%B32:Nat):Int)) u161 u163 rfl rfl rfl (c64 _ rfl (by omega)) ?_;refine r_arith (r:=((m/B32^i%B32*(n/B32^k%B32):Nat):Int)) rfl rfl rfl rfl (congrArg some (c64 _ (Int.natCast_mul _ _).symm (by omega))) ?_;refine r_arith (r:=((mulV m n i/B32^(i+k)%B32+m/B32^i%B32*(n/B32^k%B32):Nat):Int)) rfl rfl rfl rfl (congrArg some (c64 _ (by rw[Int.natCast_add]) (mulS_lt1 m n i k))) ?_;refine r_arith (r:=((mulS m n i k:Nat):Int)) rfl rfl rfl rfl (congrArg some (c64 _ (mulS_cast m n i k) (mulS_lt m n i k))) ?_;refine A7 ?_;refine Ar (((i+k:Nat):Int)) ?_;refine A1 ?_;refine r_conv (r:=((mulS m n i k%4294967296:Nat):Int)) u163 u161 rfl rfl rfl (c32 _ rfl) ?_;refine A1 ?_;refine r_shift (r:=((mulC m n i (k+1):Nat):Int)) rfl rfl rfl rfl (by omega) (congrArg some ((shr_u _ 32 rfl rfl (by omega)).trans (by rw[mulS_carry]))) ?_;refine Ix 2 (i+k) ?_;refine r_store1 rfl 2 (i+k) [_,_,⟨some g2,161,_,_,true⟩] (NV .u32 (row ((digs B32 m).length+(digs B32 n).length+1) (mulT m n i (k+1)))) ti161 rfl rfl rfl rfl rfl rfl rfl rfl (by rw[NV_length,row_length];omega) (by rw[NV_set,row_set (fun j _=>mulT_step m n i k j)]) rfl ?_;refine A5 ?_;refine Ar (((k+1:Nat):Int)) ?_;refine A3 ?_;exact Nl ⟨k+1,hk⟩
   ·have hk4:k=(digs B32 n).length:=(by have:=of_decide_eq_false hb4;omega);subst hk4;refine A10 ?_;refine Ar (((i+(digs B32 n).length:Nat):Int)) ?_;refine A1 ?_;refine r_conv (r:=((mulC m n i (digs B32 n).length%4294967296:Nat):Int)) u163 u161 rfl rfl rfl (c32 _ rfl) ?_;refine Ix 2 (i+(digs B32 n).length) ?_;refine r_store1 rfl 2 (i+(digs B32 n).length) [_,_,⟨some g2,161,_,_,true⟩] (NV .u32 (row ((digs B32 m).length+(digs B32 n).length+1) (mulR m n (i+1)))) ti161 rfl rfl rfl rfl rfl rfl rfl rfl (by rw[NV_length,row_length];omega) (by rw[NV_set,row_set (fun j _=>mulT_last m n i j)]) rfl ?_;refine A4 ?_;refine Ar (((i+1:Nat):Int)) ?_;refine A3 ?_;exact Nl ⟨i+1,hlt⟩
  ·have hge:i=(digs B32 m).length:=(by have:=of_decide_eq_false hb2;omega);subst hge;refine A8 ?_;refine r_scall0 [_] [2] rfl rfl rfl (c_nat_bytes (row ((digs B32 m).length+(digs B32 n).length+1) (mulR m n (digs B32 m).length)) (row_lt fun j=>mulR_lt _ _ _ j) (by rw[row_length];omega) (row_length _ _) ⟨some g2,_,_,Nat.le_refl _⟩) ⟨⟨_,rfl,le_share⟩,trivial⟩ rfl ?_;refine A4 ?_;refine E1 fun w hL=>⟨?_,hL.below⟩;rw[mulR_end]
end Go.Proofs.YtfijbadahkmhbaaGreatDoor
namespace Go.Via
open Go
theorem toInt_big{z:Int}(h:(!decide (nb z.natAbs≤8))=true):(if-9223372036854775808≤z∧z≤9223372036854775807 then z else 0)=0∧decide (-9223372036854775808≤z∧z≤9223372036854775807)=false:=by
 have h1:¬nb z.natAbs≤8:=by simpa using h
 have h2:¬(-9223372036854775808≤z∧z≤9223372036854775807):=fun c=>h1 (nb_le (by omega))
 exact⟨if_neg h2,decide_eq_false h2⟩
theorem toInt_yes{z:Int}(h: -9223372036854775808≤z∧z≤9223372036854775807):(if-9223372036854775808≤z∧z≤9223372036854775807 then z else 0)=z∧decide (-9223372036854775808≤z∧z≤9223372036854775807)=true:=⟨if_pos h,decide_eq_true h⟩
theorem toInt_no{z:Int}(h:¬(-9223372036854775808≤z∧z≤9223372036854775807)):(if-9223372036854775808≤z∧z≤9223372036854775807 then z else 0)=0∧decide (-9223372036854775808≤z∧z≤9223372036854775807)=false:=⟨if_neg h,decide_eq_false h⟩
theorem nb8{z:Int}(h:(!decide (nb z.natAbs≤8))=false):nb z.natAbs≤8:=by simpa using h
def badI(b:Bool)(s:ByteArray):Bool:=(s==⟨#[]⟩&&b)||s.data.toList.head? ==some 0
theorem ba_ne{s:ByteArray}(h:(s==⟨#[]⟩)=false):∃x l,s.data.toList=x::l:=by
 cases hl:s.data.toList with
 |nil=>
  exfalso
  rw[beq_ba] at h
  have:s=⟨#[]⟩:=ByteArray.ext (by simpa using hl)
  simp[this] at h
 |cons x l=>exact⟨x,l,rfl⟩
theorem ba_nil{s:ByteArray}(h:(s==⟨#[]⟩)=true):s=⟨#[]⟩:=by rw[beq_ba] at h;simpa using h
theorem gcd_step(a b:Nat):Nat.gcd b (a%b)=Nat.gcd a b:=by rw[Nat.gcd_comm a b,Nat.gcd_rec b a,Nat.gcd_comm]
theorem of_bne_f{a b:Int}(h:(a !=b)=false):a=b:=by simpa using h
theorem gcd_fin{x g:Nat}(h:x=g):(if false=true then-(x:Int) else(x:Int))=(g:Int):=by subst h;rfl
theorem badI_1{b:Bool}{s:ByteArray}(he:s=⟨#[]⟩)(hb:b=true):badI b s=true:=by subst he;subst hb;unfold badI;rw[beq_ee];rfl
theorem badI_2{b:Bool}{s:ByteArray}(he:s=⟨#[]⟩)(hb:b=false):¬badI b s=true:=by subst he;subst hb;unfold badI;simp
theorem badI_3{b:Bool}{s:ByteArray}{x:UInt8}{l:List UInt8}(he:s.data.toList=x::l)(h:(((x.toNat:Nat):Int)==0)=true):badI b s=true:=by
 unfold badI;rw[he]
 have:x=0:=UInt8.toNat_inj.1 (by have:=eq_of_beq h;show x.toNat=0;omega)
 subst this;simp
theorem badI_4{b:Bool}{s:ByteArray}{x:UInt8}{l:List UInt8}(h0:(s==⟨#[]⟩)=false)(he:s.data.toList=x::l)(h:(((x.toNat:Nat):Int)==0)=false):¬badI b s=true:=by
 unfold badI;rw[he,h0]
 have:x≠0:=fun e=>by subst e;exact absurd h (by decide)
 simp[this]
end Go.Via
namespace Go.Proofs.YtfijbadahkmhbaaGreatDoor
open Go Go.RowKit Go.Via
theorem c_integer_Gcd(a b:Int)(ha:szI a≤67108864)(hb:szI b≤67108864):PCall Tryz.prog 108 #[I a,I b] (I (Int.gcd a b)):=by
 refine⟨by kernel_rfl,fun w=>?_⟩;refine cB2 45 Tryz.func108 (LRel.nil w) ?_;refine A2 ?_;refine Bo [_,_] 2 (fun g=>[⟨some g,25,_,2,true⟩]) (fun g0=>?_);refine Bo [_,_] 2 (fun g=>[_,⟨some g,25,_,2,true⟩]) (fun g1=>?_);refine r_alloc [_,_] 2 (fun g=>[_,_,⟨some g,25,_,2,true⟩]) rfl rfl z25 rfl rfl (fun _=>rfl) (fun g2=>?_);refine A3 ?_;refine at_drawnI [2000000] mixed (by kernel_rfl) (by kernel_rfl) ?_;refine A10 ?_;refine El (ι:={x:Nat×Nat // Nat.gcd x.1 x.2=Int.gcd a b∧nb x.1≤67108864∧nb x.2≤67108864}) (fun⟨⟨x,y⟩,hg,hx,hy⟩=>([(4,.pointer (some ⟨g2,0,none⟩)),(5,.string (mag x)),(6,.string (mag y))],[⟨some g0,25,[.bool (decide (a<0)),.string (mag a.natAbs)],2,true⟩,⟨some g1,25,[.bool (decide (b<0)),.string (mag b.natAbs)],2,true⟩,⟨some g2,25,[.bool false,.string ⟨#[]⟩],2,true⟩],y)) ⟨(a.natAbs,b.natAbs),rfl,ha,hb⟩ ?_;rintro⟨⟨x,y⟩,hg,hx,hy⟩;(try dsimp only);refine A7 ?_;refine Cd ?_ ?_<;>intro hb1
 ·have hy0:y≠0:=by rw[bne_empty] at hb1;simpa using hb1
  refine A8 ?_;refine Pc (c_integer_words _ _) ?_;refine A14 ?_;refine Cd ?_ ?_<;>intro hb2
  ·obtain⟨hw1,hw2,hw3,hw4⟩:=words_T hb2;refine at_know 7 (.int .u64 (x:Nat)) rfl (by rw[if_pos hw3]) ?_;refine at_know 8 (.int .u64 (y:Nat)) rfl (by rw[if_pos hw4]) ?_;refine A2 ?_;refine El (ι:={x:Nat×Nat // Nat.gcd x.1 x.2=Int.gcd a b∧x.1<18446744073709551616∧x.2<18446744073709551616}) (fun⟨⟨u,v⟩,hg2,hu,hv⟩=>([(4,.pointer (some ⟨g2,0,none⟩)),(7,.int .u64 (u:Nat)),(8,.int .u64 (v:Nat))],[⟨some g0,25,[.bool (decide (a<0)),.string (mag a.natAbs)],2,true⟩,⟨some g1,25,[.bool (decide (b<0)),.string (mag b.natAbs)],2,true⟩,⟨some g2,25,[.bool false,.string ⟨#[]⟩],2,true⟩],v)) ⟨(x,y),hg,hw1,hw2⟩ ?_;rintro⟨⟨u,v⟩,hg2,hu,hv⟩;(try dsimp only);refine A7 ?_;refine Cd ?_ ?_<;>intro hb4
   ·have hv0:v≠0:=by have:=bne_iff_ne.1 hb4;omega
    refine A3 ?_;refine at_tree [(4,.pointer (some ⟨g2,0,none⟩)),(7,.int .u64 (v:Nat)),(8,.int .u64 (u%v:Nat))] [⟨some g0,25,[.bool (decide (a<0)),.string (mag a.natAbs)],2,true⟩,⟨some g1,25,[.bool (decide (b<0)),.string (mag b.natAbs)],2,true⟩,⟨some g2,25,[.bool false,.string ⟨#[]⟩],2,true⟩] mixed ?_ ?_
    ·refine Tn3 0 1 2 ?_ ?_ ?_
     ·refine A2 ?_;refine Tn2 1 2 ?_ ?_
      ·refine A2 ?_;refine Tn2 2 4 ?_ ?_
       ·refine A2 ?_;refine Tn2 3 4 ?_ ?_
        ·refine r_div (r:=((u%v:Nat):Int)) rfl rfl rfl rfl (by omega) (congrArg some (rem_n _ _ rfl rfl)) ?_;refine A1 ?_;refine Tn1 4 ?_
         ·refine A2 ?_;refine Tn1 5 ?_
          ·refine A2 ?_;exact⟨by kernel_rfl,rfl,⟨rfl,rfl,rfl,trivial⟩,rfl⟩
        ·refine A2 ?_;refine Tn1 3 ?_
         ·refine r_div (r:=((u%v:Nat):Int)) rfl rfl rfl rfl (by omega) (congrArg some (rem_n _ _ rfl rfl)) ?_;refine A1 ?_;refine Tn1 5 ?_
          ·refine A2 ?_;exact⟨by kernel_rfl,rfl,⟨rfl,rfl,rfl,trivial⟩,rfl⟩
       ·refine A2 ?_;refine Tn1 2 ?_
        ·refine A2 ?_;refine Tn1 3 ?_
         ·refine r_div (r:=((u%v:Nat):Int)) rfl rfl rfl rfl (by omega) (congrArg some (rem_n _ _ rfl rfl)) ?_;refine A1 ?_;refine Tn1 5 ?_
          ·refine A2 ?_;exact⟨by kernel_rfl,rfl,⟨rfl,rfl,rfl,trivial⟩,rfl⟩
      ·refine A2 ?_;refine Tn1 1 ?_
       ·refine A2 ?_;refine Tn2 3 4 ?_ ?_
        ·refine r_div (r:=((u%v:Nat):Int)) rfl rfl rfl rfl (by omega) (congrArg some (rem_n _ _ rfl rfl)) ?_;refine A1 ?_;refine Tn1 4 ?_
         ·refine A2 ?_;refine Tn1 5 ?_
          ·refine A2 ?_;exact⟨by kernel_rfl,rfl,⟨rfl,rfl,rfl,trivial⟩,rfl⟩
        ·refine A2 ?_;refine Tn1 3 ?_
         ·refine r_div (r:=((u%v:Nat):Int)) rfl rfl rfl rfl (by omega) (congrArg some (rem_n _ _ rfl rfl)) ?_;refine A1 ?_;refine Tn1 5 ?_
          ·refine A2 ?_;exact⟨by kernel_rfl,rfl,⟨rfl,rfl,rfl,trivial⟩,rfl⟩
     ·refine A2 ?_;refine Tn2 0 2 ?_ ?_
      ·refine A2 ?_;refine Tn2 2 4 ?_ ?_
       ·refine A2 ?_;refine Tn2 3 4 ?_ ?_
        ·refine r_div (r:=((u%v:Nat):Int)) rfl rfl rfl rfl (by omega) (congrArg some (rem_n _ _ rfl rfl)) ?_;refine A1 ?_;refine Tn1 4 ?_
         ·refine A2 ?_;refine Tn1 5 ?_
          ·refine A2 ?_;exact⟨by kernel_rfl,rfl,⟨rfl,rfl,rfl,trivial⟩,rfl⟩
        ·refine A2 ?_;refine Tn1 3 ?_
         ·refine r_div (r:=((u%v:Nat):Int)) rfl rfl rfl rfl (by omega) (congrArg some (rem_n _ _ rfl rfl)) ?_;refine A1 ?_;refine Tn1 5 ?_
          ·refine A2 ?_;exact⟨by kernel_rfl,rfl,⟨rfl,rfl,rfl,trivial⟩,rfl⟩
       ·refine A2 ?_;refine Tn1 2 ?_
        ·refine A2 ?_;refine Tn1 3 ?_
         ·refine r_div (r:=((u%v:Nat):Int)) rfl rfl rfl rfl (by omega) (congrArg some (rem_n _ _ rfl rfl)) ?_;refine A1 ?_;refine Tn1 5 ?_
          ·refine A2 ?_;exact⟨by kernel_rfl,rfl,⟨rfl,rfl,rfl,trivial⟩,rfl⟩
      ·refine A2 ?_;refine Tn2 0 3 ?_ ?_
       ·refine A2 ?_;refine Tn2 3 4 ?_ ?_
        ·refine r_div (r:=((u%v:Nat):Int)) rfl rfl rfl rfl (by omega) (congrArg some (rem_n _ _ rfl rfl)) ?_;refine A1 ?_;refine Tn1 4 ?_
         ·refine A2 ?_;refine Tn1 5 ?_
          ·refine A2 ?_;exact⟨by kernel_rfl,rfl,⟨rfl,rfl,rfl,trivial⟩,rfl⟩
        ·refine A2 ?_;refine Tn1 3 ?_
         ·refine r_div (r:=((u%v:Nat):Int)) rfl rfl rfl rfl (by omega) (congrArg some (rem_n _ _ rfl rfl)) ?_;refine A1 ?_;refine Tn1 5 ?_
          ·refine A2 ?_;exact⟨by kernel_rfl,rfl,⟨rfl,rfl,rfl,trivial⟩,rfl⟩
       ·refine r_div (r:=((u%v:Nat):Int)) rfl rfl rfl rfl (by omega) (congrArg some (rem_n _ _ rfl rfl)) ?_;refine A1 ?_;refine Tn1 0 ?_
        ·refine A2 ?_;refine Tn1 4 ?_
         ·refine A2 ?_;refine Tn1 5 ?_
          ·refine A2 ?_;exact⟨by kernel_rfl,rfl,⟨rfl,rfl,rfl,trivial⟩,rfl⟩
     ·refine A2 ?_;refine Tn2 0 1 ?_ ?_
      ·refine A2 ?_;refine Tn1 1 ?_
       ·refine A2 ?_;refine Tn2 3 4 ?_ ?_
        ·refine r_div (r:=((u%v:Nat):Int)) rfl rfl rfl rfl (by omega) (congrArg some (rem_n _ _ rfl rfl)) ?_;refine A1 ?_;refine Tn1 4 ?_
         ·refine A2 ?_;refine Tn1 5 ?_
          ·refine A2 ?_;exact⟨by kernel_rfl,rfl,⟨rfl,rfl,rfl,trivial⟩,rfl⟩
        ·refine A2 ?_;refine Tn1 3 ?_
         ·refine r_div (r:=((u%v:Nat):Int)) rfl rfl rfl rfl (by omega) (congrArg some (rem_n _ _ rfl rfl)) ?_;refine A1 ?_;refine Tn1 5 ?_
          ·refine A2 ?_;exact⟨by kernel_rfl,rfl,⟨rfl,rfl,rfl,trivial⟩,rfl⟩
      ·refine A2 ?_;refine Tn2 0 3 ?_ ?_
       ·refine A2 ?_;refine Tn2 3 4 ?_ ?_
        ·refine r_div (r:=((u%v:Nat):Int)) rfl rfl rfl rfl (by omega) (congrArg some (rem_n _ _ rfl rfl)) ?_;refine A1 ?_;refine Tn1 4 ?_
         ·refine A2 ?_;refine Tn1 5 ?_
          ·refine A2 ?_;exact⟨by kernel_rfl,rfl,⟨rfl,rfl,rfl,trivial⟩,rfl⟩
        ·refine A2 ?_;refine Tn1 3 ?_
         ·refine r_div (r:=((u%v:Nat):Int)) rfl rfl rfl rfl (by omega) (congrArg some (rem_n _ _ rfl rfl)) ?_;refine A1 ?_;refine Tn1 5 ?_
          ·refine A2 ?_;exact⟨by kernel_rfl,rfl,⟨rfl,rfl,rfl,trivial⟩,rfl⟩
       ·refine r_div (r:=((u%v:Nat):Int)) rfl rfl rfl rfl (by omega) (congrArg some (rem_n _ _ rfl rfl)) ?_;refine A1 ?_;refine Tn1 0 ?_
        ·refine A2 ?_;refine Tn1 4 ?_
         ·refine A2 ?_;refine Tn1 5 ?_
          ·refine A2 ?_;exact⟨by kernel_rfl,rfl,⟨rfl,rfl,rfl,trivial⟩,rfl⟩
    refine A2 ?_;exact Nl ⟨(v,u%v),by rw[←hg2];exact gcd_step u v,hv,Nat.lt_of_le_of_lt (Nat.mod_le _ _) hu⟩ (hμ:=(Nat.mod_lt _ (Nat.pos_of_ne_zero hv0)))
   ·have hv0:v=0:=by have:=of_bne_f hb4;omega
    subst hv0;rw[Nat.gcd_zero_right] at hg2;refine A8 ?_;refine Pc (c_integer_magnitude _ hu) ?_;refine Pc (c_integer_made _ _) ?_;refine So 2 0 [_,_,⟨some g2,25,_,2,true⟩] [_,_] ?_;refine A8 ?_;refine at_end1 rfl (res_cell 2 rfl rfl ti25 (vs:=[_,_]) rfl rfl (Nat.le_of_ble_eq_true rfl) rfl) (fun w hL=>⟨?_,hL.below⟩);exact congrArg (fun z=>Ending.returned (I z)) (gcd_fin hg2)
  ·refine A6 ?_;refine Pc (c_integer_div _ _ hx hy hy0) ?_;refine A15 ?_;exact Nl ⟨(y,x%y),by rw[←hg];exact gcd_step x y,hy,Nat.le_trans (nb_mono (Nat.mod_le _ _)) hx⟩ (hμ:=(Nat.mod_lt _ (Nat.pos_of_ne_zero hy0)))
 ·have hy0:y=0:=by rw[bne_empty] at hb1;simpa using hb1
  subst hy0;rw[Nat.gcd_zero_right] at hg;refine A8 ?_;refine Pc (c_integer_made _ _) ?_;refine So 2 0 [_,_,⟨some g2,25,_,2,true⟩] [_,_] ?_;refine A3 ?_;refine at_end1 rfl (res_cell 2 rfl rfl ti25 (vs:=[_,_]) rfl rfl (Nat.le_of_ble_eq_true rfl) rfl) (fun w hL=>⟨?_,hL.below⟩);exact congrArg (fun z=>Ending.returned (I z)) (gcd_fin hg)
theorem c_integer_ToInt(z:Int):PCall Tryz.prog 109 #[I z] (.tuple #[.int .i64 (if-9223372036854775808≤z∧z≤9223372036854775807 then z else 0),.bool (decide (-9223372036854775808≤z∧z≤9223372036854775807))]):=by
 refine⟨by kernel_rfl,fun w=>?_⟩;refine cB1 35 Tryz.func109 (LRel.nil w) ?_;refine A2 ?_;refine Bo [_,_] 2 (fun g=>[⟨some g,25,_,2,true⟩]) (fun g0=>?_);refine A8 ?_;refine Pc (c_integer_word _) ?_;refine A16 ?_;refine Cd ?_ ?_<;>intro hb0
 ·refine A9 ?_;refine at_end2 rfl (res_tmp rfl) (res_tmp rfl) (fun w hL=>⟨?_,hL.below⟩);rw[(toInt_big hb0).1,(toInt_big hb0).2]
 ·have h8:=nb8 hb0;have h64:=lt_of_nb_le h8;refine at_know 4 (.int .u64 (z.natAbs:Nat)) rfl (by rw[if_pos h8]) ?_;refine A5 ?_;refine Rs 18 ?_ ?_<;>intro hb1
  ·have hz:z<0:=of_decide_eq_true hb1;refine A6 ?_;refine Cd ?_ ?_<;>intro hb2
   ·have hu:=of_decide_eq_true hb2;refine A3 ?_;refine r_neg (r:=(0-(z.natAbs:Nat):Int)%18446744073709551616) rfl rfl rfl ((wu64 _)) ?_;refine r_conv (r:=z) u163 u3 rfl rfl rfl (by rw[IntKind.wrap_i64];omega) ?_;refine A7 ?_;refine at_end2 rfl (res_tmp rfl) (res_tmp rfl) (fun w hL=>⟨?_,hL.below⟩);rw[(toInt_yes (z:=z) (by omega)).1,(toInt_yes (z:=z) (by omega)).2]
   ·have hu:=of_decide_eq_false hb2;refine A6 ?_;refine Rs 29 ?_ ?_<;>intro hb3
    ·have hz2:¬z<0:=by simpa using hb3
     refine A6 ?_;refine Cd ?_ ?_<;>intro hb4
     ·have hu:=of_decide_eq_true hb4;refine A3 ?_;refine r_conv (r:=z) u163 u3 rfl rfl rfl (by rw[IntKind.wrap_i64];omega) ?_;refine A7 ?_;refine at_end2 rfl (res_tmp rfl) (res_tmp rfl) (fun w hL=>⟨?_,hL.below⟩);exfalso;omega
     ·have hu:=of_decide_eq_false hb4;refine A10 ?_;refine at_end2 rfl (res_tmp rfl) (res_tmp rfl) (fun w hL=>⟨?_,hL.below⟩);exfalso;omega
    ·have hz2:z<0:=by simpa using hb3
     refine A17 ?_;refine at_end2 rfl (res_tmp rfl) (res_tmp rfl) (fun w hL=>⟨?_,hL.below⟩);rw[(toInt_no (z:=z) (by omega)).1,(toInt_no (z:=z) (by omega)).2]
  ·have hz:¬z<0:=of_decide_eq_false hb1;refine A13 ?_;refine Rs 29 ?_ ?_<;>intro hb2
   ·have hz2:¬z<0:=by simpa using hb2
    refine A6 ?_;refine Cd ?_ ?_<;>intro hb3
    ·have hu:=of_decide_eq_true hb3;refine A3 ?_;refine r_conv (r:=z) u163 u3 rfl rfl rfl (by rw[IntKind.wrap_i64];omega) ?_;refine A7 ?_;refine at_end2 rfl (res_tmp rfl) (res_tmp rfl) (fun w hL=>⟨?_,hL.below⟩);rw[(toInt_yes (z:=z) (by omega)).1,(toInt_yes (z:=z) (by omega)).2]
    ·have hu:=of_decide_eq_false hb3;refine A10 ?_;refine at_end2 rfl (res_tmp rfl) (res_tmp rfl) (fun w hL=>⟨?_,hL.below⟩);rw[(toInt_no (z:=z) (by omega)).1,(toInt_no (z:=z) (by omega)).2]
   ·have hz2:z<0:=by simpa using hb2
    refine A17 ?_;refine at_end2 rfl (res_tmp rfl) (res_tmp rfl) (fun w hL=>⟨?_,hL.below⟩);exfalso;omega
theorem c_integer_Check(b:Bool)(s:ByteArray):PCall Tryz.prog 105 #[.agg #[.bool b,.string s]] (.int .i64 (if badI b s=true then 5 else 0)):=by
 refine⟨by kernel_rfl,fun w=>?_⟩;refine cB1 21 Tryz.func105 (LRel.nil w) ?_;refine A2 ?_;refine Bo [_,_] 2 (fun g=>[⟨some g,25,_,2,true⟩]) (fun g0=>?_);refine A10 ?_;refine Rs 6 ?_ ?_<;>intro hb0
 ·have he:=ba_nil hb0;refine A4 ?_;refine Rs 10 ?_ ?_<;>intro hb1
  ·refine A20 ?_;refine E1 fun w hL=>⟨?_,hL.below⟩;rw[if_pos (badI_1 he hb1)]
  ·refine A4 ?_;refine Rs 14 ?_ ?_<;>intro hb2
   ·exact absurd hb2 (by rw[he,bne,beq_ee];decide)
   ·refine A17 ?_;refine E1 fun w hL=>⟨?_,hL.below⟩;rw[if_neg (badI_2 he hb1)]
 ·obtain⟨x,l,he⟩:=ba_ne hb0;refine A8 ?_;refine Rs 14 ?_ ?_<;>intro hb1
  ·refine A2 ?_;refine r_idxS (b:=x) (r:=(x.toNat:Int)) u9 rfl rfl rfl rfl (by omega) (by rw[he];rfl) rfl ?_;refine A5 ?_;refine Cd ?_ ?_<;>intro hb2
   ·refine A7 ?_;refine E1 fun w hL=>⟨?_,hL.below⟩;rw[if_pos (badI_3 he hb2)]
   ·refine A8 ?_;refine E1 fun w hL=>⟨?_,hL.below⟩;rw[if_neg (badI_4 hb0 he hb2)]
  ·exact absurd hb1 (by rw[bne,hb0];decide)
theorem c_integer_Negate(z:Int):PCall Tryz.prog 170 #[I z] (I (-z)):=by
 refine⟨by kernel_rfl,fun w=>?_⟩;refine cB1 9 Tryz.func170 (LRel.nil w) ?_;refine A2 ?_;refine Bo [_,_] 2 (fun g=>[⟨some g,25,_,2,true⟩]) (fun g0=>?_);refine r_alloc [_,_] 2 (fun g=>[_,⟨some g,25,_,2,true⟩]) rfl rfl z25 rfl rfl (fun _=>rfl) (fun g1=>?_);refine A9 ?_;refine Pc (c_integer_made _ _) ?_;refine So 1 0 [_,⟨some g1,25,_,2,true⟩] [_,_] ?_;refine A3 ?_;refine at_end1 rfl (res_cell 1 rfl rfl ti25 (vs:=[_,_]) rfl rfl (Nat.le_of_ble_eq_true rfl) rfl) (fun w hL=>⟨?_,hL.below⟩);exact congrArg (fun z=>Ending.returned (I z)) (negate_val z)
theorem c_integer_Add(a b:Int)(ha:szI a≤67108864)(hb:szI b≤67108864):PCall Tryz.prog 183 #[I a,I b] (I (a+b)):=by
 refine⟨by kernel_rfl,fun w=>?_⟩;refine cB2 42 Tryz.func183 (LRel.nil w) ?_;refine A2 ?_;refine Bo [_,_] 2 (fun g=>[⟨some g,25,_,2,true⟩]) (fun g0=>?_);refine Bo [_,_] 2 (fun g=>[_,⟨some g,25,_,2,true⟩]) (fun g1=>?_);refine r_alloc [_,_] 2 (fun g=>[_,_,⟨some g,25,_,2,true⟩]) rfl rfl z25 rfl rfl (fun _=>rfl) (fun g2=>?_);refine A10 ?_;refine r_eqlBool rfl u4 rfl rfl rfl ?_;refine A3 ?_;refine Cd ?_ ?_<;>intro hb0
 ·refine A1 ?_;refine at_drawnI [] mixed (by kernel_rfl) (by kernel_rfl) ?_;refine A6 ?_;refine Pc (c_integer_add _ _ ha hb) ?_;refine Pc (c_integer_made _ _) ?_;refine So 2 0 [_,_,⟨some g2,25,_,2,true⟩] [_,_] ?_;refine A5 ?_;refine at_end1 rfl (res_cell 2 rfl rfl ti25 (vs:=[_,_]) rfl rfl (Nat.le_of_ble_eq_true rfl) rfl) (fun w hL=>⟨?_,hL.below⟩);exact congrArg (fun z=>Ending.returned (I z)) (add_same a b hb0)
 ·refine A6 ?_;refine Pc (c_integer_compare _ _) ?_;refine A4 ?_;refine Cd ?_ ?_<;>intro hb1
  ·refine A1 ?_;refine at_drawnI [] mixed (by kernel_rfl) (by kernel_rfl) ?_;refine A6 ?_;refine Pc (c_integer_sub _ _ ha (cmpN_ge _ _ hb1)) ?_;refine Pc (c_integer_made _ _) ?_;refine So 2 0 [_,_,⟨some g2,25,_,2,true⟩] [_,_] ?_;refine A5 ?_;refine at_end1 rfl (res_cell 2 rfl rfl ti25 (vs:=[_,_]) rfl rfl (Nat.le_of_ble_eq_true rfl) rfl) (fun w hL=>⟨?_,hL.below⟩);exact congrArg (fun z=>Ending.returned (I z)) (add_diff1 a b hb0 (cmpN_ge _ _ hb1))
  ·refine A4 ?_;refine at_drawnI [] mixed (by kernel_rfl) (by kernel_rfl) ?_;refine A6 ?_;refine Pc (c_integer_sub _ _ hb (cmpN_lt _ _ hb1)) ?_;refine Pc (c_integer_made _ _) ?_;refine So 2 0 [_,_,⟨some g2,25,_,2,true⟩] [_,_] ?_;refine A3 ?_;refine at_end1 rfl (res_cell 2 rfl rfl ti25 (vs:=[_,_]) rfl rfl (Nat.le_of_ble_eq_true rfl) rfl) (fun w hL=>⟨?_,hL.below⟩);exact congrArg (fun z=>Ending.returned (I z)) (add_diff2 a b hb0 (cmpN_lt _ _ hb1))
theorem c_integer_Mul(a b:Int)(ha:szI a≤67108864)(hb:szI b≤67108864):PCall Tryz.prog 184 #[I a,I b] (I (a*b)):=by
 refine⟨by kernel_rfl,fun w=>?_⟩;refine cB2 16 Tryz.func184 (LRel.nil w) ?_;refine A2 ?_;refine Bo [_,_] 2 (fun g=>[⟨some g,25,_,2,true⟩]) (fun g0=>?_);refine Bo [_,_] 2 (fun g=>[_,⟨some g,25,_,2,true⟩]) (fun g1=>?_);refine r_alloc [_,_] 2 (fun g=>[_,_,⟨some g,25,_,2,true⟩]) rfl rfl z25 rfl rfl (fun _=>rfl) (fun g2=>?_);refine A3 ?_;refine at_drawnI [] mixed (by kernel_rfl) (by kernel_rfl) ?_;refine A4 ?_;refine r_neqBool rfl u4 rfl rfl rfl ?_;refine A4 ?_;refine Pc (c_integer_mul _ _ ha hb) ?_;refine Pc (c_integer_made _ _) ?_;refine So 2 0 [_,_,⟨some g2,25,_,2,true⟩] [_,_] ?_;refine A3 ?_;refine at_end1 rfl (res_cell 2 rfl rfl ti25 (vs:=[_,_]) rfl rfl (Nat.le_of_ble_eq_true rfl) rfl) (fun w hL=>⟨?_,hL.below⟩);exact congrArg (fun z=>Ending.returned (I z)) (mul_val a b)
theorem c_integer_DivMod(a b:Int)(ha:szI a≤33554432)(hb:szI b≤33554432)(h0:b≠0):PCall Tryz.prog 198 #[I a,I b] (.tuple #[I (a/b),I (a%b),.int .i64 0]):=by
 have szle:nb a.natAbs≤67108864:=Nat.le_trans ha (Nat.le_of_ble_eq_true rfl);have szle2:nb b.natAbs≤67108864:=Nat.le_trans hb (Nat.le_of_ble_eq_true rfl);refine⟨by kernel_rfl,fun w=>?_⟩;refine cB2 43 Tryz.func198 (LRel.nil w) ?_;refine A2 ?_;refine Bo [_,_] 2 (fun g=>[⟨some g,25,_,2,true⟩]) (fun g0=>?_);refine Bo [_,_] 2 (fun g=>[_,⟨some g,25,_,2,true⟩]) (fun g1=>?_);refine r_alloc [_,_] 2 (fun g=>[_,_,⟨some g,25,_,2,true⟩]) rfl rfl z25 rfl rfl (fun _=>rfl) (fun g2=>?_);refine r_alloc [_,_] 2 (fun g=>[_,_,_,⟨some g,25,_,2,true⟩]) rfl rfl z25 rfl rfl (fun _=>rfl) (fun g3=>?_);refine A11 ?_;refine Cd ?_ ?_<;>intro hb0
 ·exact absurd hb0 (by rw[beq_empty];simp;omega)
 ·refine A8 ?_;refine r_pcall [_,_] rfl rfl rfl (c_integer_div _ _ (by first|assumption|grind [lI_add,lI_sub,lI_mul,lI_neg,lI_gcd,lI_num,lI_den,lQ_add,lQ_sub,lQ_mul,lQ_div,lQ_neg,l_nb]) (by first|assumption|grind [lI_add,lI_sub,lI_mul,lI_neg,lI_gcd,lI_num,lI_den,lQ_add,lQ_sub,lQ_mul,lQ_div,lQ_neg,l_nb]) (by omega)) ?_;refine A13 ?_;refine Rs 24 ?_ ?_<;>intro hb1
  ·refine A5 ?_;refine Cd ?_ ?_<;>intro hb2
   ·refine at_drawn (l':=[⟨_,_,_,_,_,_⟩,⟨_,_,_,_,_,_⟩,⟨_,_,_,_,_,_⟩,⟨_,_,_,_,_,_⟩,⟨_,_,_,_,_,_⟩,⟨_,_,_,_,_,_⟩,⟨_,_,_,_,_,_⟩,⟨_,_,_,_,_,_⟩]) [] [0,2,3,4,1,5,6,7] mixed (by kernel_rfl) rfl (by kernel_rfl) ?_;refine A4 ?_;refine r_pcall [_,.string (mag 1)] rfl rfl (by rw[mag_one];rfl) (c_integer_add _ _ (Nat.le_trans (nb_div _ _) (Nat.le_trans ha (Nat.le_of_ble_eq_true rfl))) (Nat.le_trans (nb_le (k:=1) (by omega)) (Nat.le_of_ble_eq_true rfl))) ?_;refine r_pcall [_,_] rfl rfl rfl (c_integer_sub _ _ (by first|assumption|grind [lI_add,lI_sub,lI_mul,lI_neg,lI_gcd,lI_num,lI_den,lQ_add,lQ_sub,lQ_mul,lQ_div,lQ_neg,l_nb]) (Nat.le_of_lt (Nat.mod_lt _ (by omega)))) ?_;refine A10 ?_;refine r_neqBool rfl u4 rfl rfl rfl ?_;refine A1 ?_;refine Pc (c_integer_made _ _) ?_;refine A1 ?_;refine Pc (c_integer_made _ _) ?_;refine So 2 0 [_,_,⟨some g2,25,_,2,true⟩,_] [_,_] ?_;refine So 3 0 [_,_,_,⟨some g3,25,_,2,true⟩] [_,_] ?_;refine A4 ?_;refine at_end3 rfl (res_cell 2 rfl rfl ti25 (vs:=[_,_]) rfl rfl (Nat.le_of_ble_eq_true rfl) rfl) (res_cell 3 rfl rfl ti25 (vs:=[_,_]) rfl rfl (Nat.le_of_ble_eq_true rfl) rfl) (res_tmp rfl) (fun w hL=>⟨?_,hL.below⟩);have e:=divmod_T (a:=a) (b:=b) h0 (by simpa using hb1) (by rw[bne_empty] at hb2;simpa using hb2);rw[←e.1,←e.2];rfl
   ·refine A8 ?_;refine r_neqBool rfl u4 rfl rfl rfl ?_;refine A1 ?_;refine Pc (c_integer_made _ _) ?_;refine A1 ?_;refine Pc (c_integer_made _ _) ?_;refine So 2 0 [_,_,⟨some g2,25,_,2,true⟩,_] [_,_] ?_;refine So 3 0 [_,_,_,⟨some g3,25,_,2,true⟩] [_,_] ?_;refine A4 ?_;refine at_end3 rfl (res_cell 2 rfl rfl ti25 (vs:=[_,_]) rfl rfl (Nat.le_of_ble_eq_true rfl) rfl) (res_cell 3 rfl rfl ti25 (vs:=[_,_]) rfl rfl (Nat.le_of_ble_eq_true rfl) rfl) (res_tmp rfl) (fun w hL=>⟨?_,hL.below⟩);have e:=divmod_F (a:=a) (b:=b) h0 (.inr (by rw[bne_empty] at hb2;simpa using hb2));rw[←e.1,←e.2];rfl
  ·refine A14 ?_;refine r_neqBool rfl u4 rfl rfl rfl ?_;refine A1 ?_;refine Pc (c_integer_made _ _) ?_;refine A1 ?_;refine Pc (c_integer_made _ _) ?_;refine So 2 0 [_,_,⟨some g2,25,_,2,true⟩,_] [_,_] ?_;refine So 3 0 [_,_,_,⟨some g3,25,_,2,true⟩] [_,_] ?_;refine A4 ?_;refine at_end3 rfl (res_cell 2 rfl rfl ti25 (vs:=[_,_]) rfl rfl (Nat.le_of_ble_eq_true rfl) rfl) (res_cell 3 rfl rfl ti25 (vs:=[_,_]) rfl rfl (Nat.le_of_ble_eq_true rfl) rfl) (res_tmp rfl) (fun w hL=>⟨?_,hL.below⟩);have e:=divmod_F (a:=a) (b:=b) h0 (.inl (by simpa using hb1));rw[←e.1,←e.2];rfl
theorem c_rational_one:PCall Tryz.prog 107 #[] (I 1):=by
 refine⟨by kernel_rfl,fun w=>?_⟩;refine cB0 2 Tryz.func107 (LRel.nil w) ?_;refine A2 ?_;refine r_alloc [_,_] 2 (fun g=>[⟨some g,25,_,2,true⟩]) rfl rfl z25 rfl rfl (fun _=>rfl) (fun g0=>?_);refine A4 ?_;refine Pc (c_integer_FromInt 1 (by omega) (by omega)) ?_;refine So 0 0 [⟨some g0,25,_,2,true⟩] [_,_] ?_;refine A3 ?_;refine at_end1 rfl (res_cell 0 rfl rfl ti25 (vs:=[_,_]) rfl rfl (Nat.le_of_ble_eq_true rfl) rfl) (fun w hL=>⟨?_,hL.below⟩);exact rfl
theorem c_rational_quotient(a b:Int)(ha:szI a≤33554432)(hb:szI b≤33554432)(h0:b≠0):PCall Tryz.prog 185 #[I a,I b] (I (a/b)):=by
 refine⟨by kernel_rfl,fun w=>?_⟩;refine cB2 16 Tryz.func185 (LRel.nil w) ?_;refine A2 ?_;refine Bo [_,_] 2 (fun g=>[⟨some g,25,_,2,true⟩]) (fun g0=>?_);refine Bo [_,_] 2 (fun g=>[_,⟨some g,25,_,2,true⟩]) (fun g1=>?_);refine r_alloc [_,_] 2 (fun g=>[_,_,⟨some g,25,_,2,true⟩]) rfl rfl z25 rfl rfl (fun _=>rfl) (fun g2=>?_);refine A4 ?_;refine Ld 0 0 [_,_] ti25 ?_;refine Ld 1 0 [_,_] ti25 ?_;refine Pc (c_integer_DivMod a b ha hb h0) ?_;refine A4 ?_;refine r_alloc [_,_] 2 (fun g=>[_,_,_,⟨some g,25,_,2,true⟩]) rfl rfl z25 rfl rfl (fun _=>rfl) (fun g3=>?_);refine r_alloc [_,_] 2 (fun g=>[_,_,_,_,⟨some g,25,_,2,true⟩]) rfl rfl z25 rfl rfl (fun _=>rfl) (fun g4=>?_);refine So 3 0 [_,_,_,⟨some g3,25,_,2,true⟩,_] [_,_] ?_;refine So 4 0 [_,_,_,_,⟨some g4,25,_,2,true⟩] [_,_] ?_;refine A5 ?_;refine Ld 3 0 [_,_] ti25 ?_;refine So 2 0 [_,_,⟨some g2,25,_,2,true⟩,_,_] [_,_] ?_;refine A3 ?_;refine at_end1 rfl (res_cell 2 rfl rfl ti25 (vs:=[_,_]) rfl rfl (Nat.le_of_ble_eq_true rfl) rfl) (fun w hL=>⟨?_,hL.below⟩);exact rfl
theorem c_rational_canonical(n d:Int)(hn:szI n≤8388608)(hd:szI d≤8388608)(h0:d≠0):PCall Tryz.prog 174 #[I n,I d] (Q (Rat.divInt n d)):=by
 refine⟨by kernel_rfl,fun w=>?_⟩;refine cB2 29 Tryz.func174 (LRel.nil w) ?_;refine A2 ?_;refine Bo [_,_] 2 (fun g=>[⟨some g,25,_,2,true⟩]) (fun g0=>?_);refine Bo [_,_] 2 (fun g=>[_,⟨some g,25,_,2,true⟩]) (fun g1=>?_);refine r_alloc [_,_,_,_] 4 (fun g=>[_,_,⟨some g,27,_,4,true⟩]) rfl rfl z27 rfl rfl (fun _=>rfl) (fun g2=>?_);refine A5 ?_;refine Ld 1 0 [_,_] ti25 ?_;refine Pc (c_integer_Sign _) ?_;refine A3 ?_;refine Cd ?_ ?_<;>intro hb0
 ·refine at_drawn (l':=[⟨_,_,_,_,_,_⟩,⟨_,_,_,_,_,_⟩,⟨_,_,_,_,_,_⟩,⟨_,_,_,_,_,_⟩,⟨_,_,_,_,_,_⟩,⟨_,_,_,_,_,_⟩]) [] [0,2,1,3,4,5] mixed (by kernel_rfl) rfl (by kernel_rfl) ?_;refine Ld 0 0 [_,_] ti25 ?_;refine Ld 1 0 [_,_] ti25 ?_;refine Pc (c_integer_Negate _) ?_;refine Pc (c_integer_Negate _) ?_;refine So 0 0 [⟨some g0,25,_,2,true⟩,_,_] [_,_] ?_;refine So 1 0 [_,⟨some g1,25,_,2,true⟩,_] [_,_] ?_;refine A4 ?_;refine Ld 0 0 [_,_] ti25 ?_;refine Ld 1 0 [_,_] ti25 ?_;refine r_pcall [_,_] rfl rfl rfl (c_integer_Gcd _ _ (by first|assumption|grind [lI_add,lI_sub,lI_mul,lI_neg,lI_gcd,lI_num,lI_den,lQ_add,lQ_sub,lQ_mul,lQ_div,lQ_neg,l_nb]) (by first|assumption|grind [lI_add,lI_sub,lI_mul,lI_neg,lI_gcd,lI_num,lI_den,lQ_add,lQ_sub,lQ_mul,lQ_div,lQ_neg,l_nb])) ?_;refine r_alloc [_,_] 2 (fun g=>[_,_,_,⟨some g,25,_,2,true⟩]) rfl rfl z25 rfl rfl (fun _=>rfl) (fun g3=>?_);refine So 3 0 [_,_,_,⟨some g3,25,_,2,true⟩] [_,_] ?_;refine A3 ?_;refine at_drawn (l':=[⟨_,_,_,_,_,_⟩,⟨_,_,_,_,_,_⟩,⟨_,_,_,_,_,_⟩,⟨_,_,_,_,_,_⟩,⟨_,_,_,_,_,_⟩,⟨_,_,_,_,_,_⟩,⟨_,_,_,_,_,_⟩,⟨_,_,_,_,_,_⟩]) [] [0,1,3,4,2,5,6,7] mixed (by kernel_rfl) rfl (by kernel_rfl) ?_;refine Ld 0 0 [_,_] ti25 ?_;refine Ld 3 0 [_,_] ti25 ?_;refine Ld 1 0 [_,_] ti25 ?_;refine Ld 3 0 [_,_] ti25 ?_;refine r_pcall [_,_] rfl rfl rfl (c_rational_quotient _ _ (by first|assumption|grind [lI_add,lI_sub,lI_mul,lI_neg,lI_gcd,lI_num,lI_den,lQ_add,lQ_sub,lQ_mul,lQ_div,lQ_neg,l_nb]) (by first|assumption|grind [lI_add,lI_sub,lI_mul,lI_neg,lI_gcd,lI_num,lI_den,lQ_add,lQ_sub,lQ_mul,lQ_div,lQ_neg,l_nb]) (gcd_ne (by omega))) ?_;refine r_pcall [_,_] rfl rfl rfl (c_rational_quotient _ _ (by first|assumption|grind [lI_add,lI_sub,lI_mul,lI_neg,lI_gcd,lI_num,lI_den,lQ_add,lQ_sub,lQ_mul,lQ_div,lQ_neg,l_nb]) (by first|assumption|grind [lI_add,lI_sub,lI_mul,lI_neg,lI_gcd,lI_num,lI_den,lQ_add,lQ_sub,lQ_mul,lQ_div,lQ_neg,l_nb]) (gcd_ne (by omega))) ?_;refine So 0 0 [⟨some g0,25,_,2,true⟩,_,_,_] [_,_] ?_;refine So 1 0 [_,⟨some g1,25,_,2,true⟩,_,_] [_,_] ?_;refine A4 ?_;refine at_drawnI [] mixed (by kernel_rfl) (by kernel_rfl) ?_;refine Ld 1 0 [_,_] ti25 ?_;refine Pc (c_rational_one) ?_;refine r_eqlAgg rfl rfl rfl rfl gd25 (eq25 _ _) ?_;refine A2 ?_;refine Cd ?_ ?_<;>intro hb1
  ·refine A1 ?_;refine r_build [] rfl rfl rfl (bd25_0) ?_;refine So 1 0 [_,⟨some g1,25,_,2,true⟩,_,_] [_,_] ?_;refine A4 ?_;refine Ld 0 0 [_,_] ti25 ?_;refine Ld 1 0 [_,_] ti25 ?_;refine r_build [(0,_),(1,_)] rfl rfl rfl (bd27_2) ?_;refine So 2 0 [_,_,⟨some g2,27,_,4,true⟩,_] [_,_,_,_] ?_;refine A3 ?_;refine at_end1 rfl (res_cell 2 rfl rfl ti27 (vs:=[_,_,_,_]) rfl rfl (Nat.le_of_ble_eq_true rfl) rfl) (fun w hL=>⟨?_,hL.below⟩);exact congrArg Ending.returned ((canon_1 (n:= -n) (d:= -d) (by have:=sign_lt hb0;omega) (by simpa using hb1)).trans (by rw[Rat.neg_divInt_neg]))
  ·refine A4 ?_;refine Ld 0 0 [_,_] ti25 ?_;refine Ld 1 0 [_,_] ti25 ?_;refine r_build [(0,_),(1,_)] rfl rfl rfl (bd27_2) ?_;refine So 2 0 [_,_,⟨some g2,27,_,4,true⟩,_] [_,_,_,_] ?_;refine A3 ?_;refine at_end1 rfl (res_cell 2 rfl rfl ti27 (vs:=[_,_,_,_]) rfl rfl (Nat.le_of_ble_eq_true rfl) rfl) (fun w hL=>⟨?_,hL.below⟩);exact congrArg Ending.returned ((canon_2 (n:= -n) (d:= -d) (by have:=sign_lt hb0;omega) (by simpa using hb1)).trans (by rw[Rat.neg_divInt_neg]))
 ·refine A4 ?_;refine Ld 0 0 [_,_] ti25 ?_;refine Ld 1 0 [_,_] ti25 ?_;refine r_pcall [_,_] rfl rfl rfl (c_integer_Gcd _ _ (by first|assumption|grind [lI_add,lI_sub,lI_mul,lI_neg,lI_gcd,lI_num,lI_den,lQ_add,lQ_sub,lQ_mul,lQ_div,lQ_neg,l_nb]) (by first|assumption|grind [lI_add,lI_sub,lI_mul,lI_neg,lI_gcd,lI_num,lI_den,lQ_add,lQ_sub,lQ_mul,lQ_div,lQ_neg,l_nb])) ?_;refine r_alloc [_,_] 2 (fun g=>[_,_,_,⟨some g,25,_,2,true⟩]) rfl rfl z25 rfl rfl (fun _=>rfl) (fun g3=>?_);refine So 3 0 [_,_,_,⟨some g3,25,_,2,true⟩] [_,_] ?_;refine A3 ?_;refine at_drawn (l':=[⟨_,_,_,_,_,_⟩,⟨_,_,_,_,_,_⟩,⟨_,_,_,_,_,_⟩,⟨_,_,_,_,_,_⟩,⟨_,_,_,_,_,_⟩,⟨_,_,_,_,_,_⟩,⟨_,_,_,_,_,_⟩,⟨_,_,_,_,_,_⟩]) [] [0,1,3,4,2,5,6,7] mixed (by kernel_rfl) rfl (by kernel_rfl) ?_;refine Ld 0 0 [_,_] ti25 ?_;refine Ld 3 0 [_,_] ti25 ?_;refine Ld 1 0 [_,_] ti25 ?_;refine Ld 3 0 [_,_] ti25 ?_;refine r_pcall [_,_] rfl rfl rfl (c_rational_quotient _ _ (by first|assumption|grind [lI_add,lI_sub,lI_mul,lI_neg,lI_gcd,lI_num,lI_den,lQ_add,lQ_sub,lQ_mul,lQ_div,lQ_neg,l_nb]) (by first|assumption|grind [lI_add,lI_sub,lI_mul,lI_neg,lI_gcd,lI_num,lI_den,lQ_add,lQ_sub,lQ_mul,lQ_div,lQ_neg,l_nb]) (gcd_ne (by omega))) ?_;refine r_pcall [_,_] rfl rfl rfl (c_rational_quotient _ _ (by first|assumption|grind [lI_add,lI_sub,lI_mul,lI_neg,lI_gcd,lI_num,lI_den,lQ_add,lQ_sub,lQ_mul,lQ_div,lQ_neg,l_nb]) (by first|assumption|grind [lI_add,lI_sub,lI_mul,lI_neg,lI_gcd,lI_num,lI_den,lQ_add,lQ_sub,lQ_mul,lQ_div,lQ_neg,l_nb]) (gcd_ne (by omega))) ?_;refine So 0 0 [⟨some g0,25,_,2,true⟩,_,_,_] [_,_] ?_;refine So 1 0 [_,⟨some g1,25,_,2,true⟩,_,_] [_,_] ?_;refine A4 ?_;refine at_drawnI [] mixed (by kernel_rfl) (by kernel_rfl) ?_;refine Ld 1 0 [_,_] ti25 ?_;refine Pc (c_rational_one) ?_;refine r_eqlAgg rfl rfl rfl rfl gd25 (eq25 _ _) ?_;refine A2 ?_;refine Cd ?_ ?_<;>intro hb1
  ·refine A1 ?_;refine r_build [] rfl rfl rfl (bd25_0) ?_;refine So 1 0 [_,⟨some g1,25,_,2,true⟩,_,_] [_,_] ?_;refine A4 ?_;refine Ld 0 0 [_,_] ti25 ?_;refine Ld 1 0 [_,_] ti25 ?_;refine r_build [(0,_),(1,_)] rfl rfl rfl (bd27_2) ?_;refine So 2 0 [_,_,⟨some g2,27,_,4,true⟩,_] [_,_,_,_] ?_;refine A3 ?_;refine at_end1 rfl (res_cell 2 rfl rfl ti27 (vs:=[_,_,_,_]) rfl rfl (Nat.le_of_ble_eq_true rfl) rfl) (fun w hL=>⟨?_,hL.below⟩);exact congrArg Ending.returned (canon_1 (sign_ge hb0 h0) (by simpa using hb1))
  ·refine A4 ?_;refine Ld 0 0 [_,_] ti25 ?_;refine Ld 1 0 [_,_] ti25 ?_;refine r_build [(0,_),(1,_)] rfl rfl rfl (bd27_2) ?_;refine So 2 0 [_,_,⟨some g2,27,_,4,true⟩,_] [_,_,_,_] ?_;refine A3 ?_;refine at_end1 rfl (res_cell 2 rfl rfl ti27 (vs:=[_,_,_,_]) rfl rfl (Nat.le_of_ble_eq_true rfl) rfl) (fun w hL=>⟨?_,hL.below⟩);exact congrArg Ending.returned (canon_2 (sign_ge hb0 h0) (by simpa using hb1))
theorem c_rational_Neg(q:Rat):PCall Tryz.prog 156 #[Q q] (Q (-q)):=by
 refine⟨by kernel_rfl,fun w=>?_⟩;refine cB1 9 Tryz.func156 (LRel.nil w) ?_;refine A2 ?_;refine Bo [_,_,_,_] 4 (fun g=>[⟨some g,27,_,4,true⟩]) (fun g0=>?_);refine r_alloc [_,_,_,_] 4 (fun g=>[_,⟨some g,27,_,4,true⟩]) rfl rfl z27 rfl rfl (fun _=>rfl) (fun g1=>?_);refine A3 ?_;refine at_drawn (l':=[⟨_,_,_,_,_,_⟩,⟨_,_,_,_,_,_⟩,⟨_,_,_,_,_,_⟩,⟨_,_,_,_,_,_⟩,⟨_,_,_,_,_,_⟩,⟨_,_,_,_,_,_⟩,⟨_,_,_,_,_,_⟩]) [] [0,1,3,4,2,5,6] mixed (by kernel_rfl) rfl (by kernel_rfl) ?_;refine A1 ?_;refine Ld 0 0 [_,_] ti25 ?_;refine A1 ?_;refine Ld 0 2 [_,_] ti25 ?_;refine Pc (c_integer_Negate _) ?_;refine r_build [(0,_),(1,_)] rfl rfl rfl (bd27_2) ?_;refine So 1 0 [_,⟨some g1,27,_,4,true⟩] [_,_,_,_] ?_;refine A3 ?_;refine at_end1 rfl (res_cell 1 rfl rfl ti27 (vs:=[_,_,_,_]) rfl rfl (Nat.le_of_ble_eq_true rfl) rfl) (fun w hL=>⟨?_,hL.below⟩);exact rfl
theorem c_rational_Make(n d:Int)(hn:szI n≤8388608)(hd:szI d≤8388608):PCall Tryz.prog 158 #[I n,I d] (.tuple #[Q (Rat.divInt n d),.int .i64 (if d=0 then 6 else 0)]):=by
 refine⟨by kernel_rfl,fun w=>?_⟩;refine cB2 13 Tryz.func158 (LRel.nil w) ?_;refine A2 ?_;refine Bo [_,_] 2 (fun g=>[⟨some g,25,_,2,true⟩]) (fun g0=>?_);refine Bo [_,_] 2 (fun g=>[_,⟨some g,25,_,2,true⟩]) (fun g1=>?_);refine r_alloc [_,_,_,_] 4 (fun g=>[_,_,⟨some g,27,_,4,true⟩]) rfl rfl z27 rfl rfl (fun _=>rfl) (fun g2=>?_);refine A6 ?_;refine Ld 1 0 [_,_] ti25 ?_;refine Pc (c_integer_Sign _) ?_;refine A3 ?_;refine Cd ?_ ?_<;>intro hb0
 ·refine A2 ?_;refine r_build [] rfl rfl rfl (bd27_0) ?_;refine So 2 0 [_,_,⟨some g2,27,_,4,true⟩] [_,_,_,_] ?_;refine A5 ?_;refine at_end2 rfl (res_cell 2 rfl rfl ti27 (vs:=[_,_,_,_]) rfl rfl (Nat.le_of_ble_eq_true rfl) rfl) (res_tmp rfl) (fun w hL=>⟨?_,hL.below⟩);have e:d=0:=by simpa using hb0
  subst e;rw[Rat.divInt_zero,if_pos rfl,Q_zero]
 ·refine A4 ?_;refine Ld 0 0 [_,_] ti25 ?_;refine Ld 1 0 [_,_] ti25 ?_;refine r_pcall [_,_] rfl rfl rfl (c_rational_canonical _ _ hn hd (fun e=>absurd (show(d.sign==0)=true by rw[e];rfl) (by rw[hb0];decide))) ?_;refine So 2 0 [_,_,⟨some g2,27,_,4,true⟩] [_,_,_,_] ?_;refine A4 ?_;refine at_end2 rfl (res_cell 2 rfl rfl ti27 (vs:=[_,_,_,_]) rfl rfl (Nat.le_of_ble_eq_true rfl) rfl) (res_tmp rfl) (fun w hL=>⟨?_,hL.below⟩);rw[if_neg (fun e=>absurd (show(d.sign==0)=true by rw[e];rfl) (by rw[hb0];decide))];rfl
theorem c_rational_FromInt(z:Int)(h1: -9223372036854775808≤z)(h2:z≤9223372036854775807):PCall Tryz.prog 72 #[.int .i64 z] (Q (z:Rat)):=by
 refine⟨by kernel_rfl,fun w=>?_⟩;refine cB1 6 Tryz.func72 (LRel.nil w) ?_;refine A2 ?_;refine r_alloc [_,_,_,_] 4 (fun g=>[⟨some g,27,_,4,true⟩]) rfl rfl z27 rfl rfl (fun _=>rfl) (fun g0=>?_);refine A5 ?_;refine r_pcall [_] rfl rfl rfl (c_integer_FromInt _ (by omega) (by omega)) ?_;refine r_build [(0,_)] rfl rfl rfl (bd27_1) ?_;refine So 0 0 [⟨some g0,27,_,4,true⟩] [_,_,_,_] ?_;refine A3 ?_;refine at_end1 rfl (res_cell 0 rfl rfl ti27 (vs:=[_,_,_,_]) rfl rfl (Nat.le_of_ble_eq_true rfl) rfl) (fun w hL=>⟨?_,hL.below⟩);exact rfl
end Go.Proofs.YtfijbadahkmhbaaGreatDoor
namespace Go.Via
open Go Go.RowKit
structure FS(bs:List (Option Nat))(len:Nat) where
 z:SR len
 o:Bool
 ho:o=true∨z.b∈bs
theorem szI64{a:Int}(h1: -9223372036854775808≤a)(h2:a≤9223372036854775807):szI a≤8388608:=by
 have:szI a≤8:=nb_le (by omega)
 omega
theorem I_nat(d:Nat):Value.agg #[.bool false,.string (mag d)]=I (d:Int):=(made_F d)
theorem okI_z{b:Bool}{s:ByteArray}(h:badI b s=false):∃z:Int,b=decide (z<0)∧s=mag z.natAbs:=by
 unfold badI at h
 rw[Bool.or_eq_false_iff] at h
 obtain⟨h1,h2⟩:=h
 have hs:mag (natL s.data.toList)=s:=mag_natB (s:=s) (fun e=>by rw[e] at h2;cases h2)
 by_cases h0:natL s.data.toList=0
 ·refine⟨0,?_,?_⟩
  ·rw[h0,mag_zero] at hs
   rw[←hs,beq_ee] at h1
   simpa using h1
  ·rw[h0] at hs;rw[←hs];rfl
 ·refine⟨if b then-(natL s.data.toList:Int) else natL s.data.toList,?_,?_⟩
  ·cases b
   ·simp only[Bool.false_eq_true,if_false];rw[decide_eq_false (by omega)]
   ·simp only[if_true];rw[decide_eq_true (by omega)]
  ·cases b
   ·simpa using hs.symm
   ·simpa using hs.symm
noncomputable def isQ(b1:Bool)(s1:ByteArray)(b2:Bool)(s2:ByteArray):Bool:= @decide (∃q:Rat,Value.agg #[.bool b1,.string s1,.bool b2,.string s2]=Q q) (Classical.propDecidable _)
theorem isQ_iff{b1:Bool}{s1:ByteArray}{b2:Bool}{s2:ByteArray}:isQ b1 s1 b2 s2=true↔∃q:Rat,b1=decide (q.num<0)∧s1=mag q.num.natAbs∧b2=false∧s2=dm q:=by
 unfold isQ
 rw[@decide_eq_true_iff _ (Classical.propDecidable _)]
 constructor
 ·rintro⟨q,h⟩
  unfold Q at h
  simp only[Value.agg.injEq,Array.mk.injEq,List.cons.injEq,Value.bool.injEq,Value.string.injEq,and_true] at h
  exact⟨q,h⟩
 ·rintro⟨q,rfl,rfl,rfl,rfl⟩
  exact⟨q,rfl⟩
theorem isQ_neg{b1:Bool}{s1:ByteArray}{b2:Bool}{s2:ByteArray}(h:¬∃q:Rat,b1=decide (q.num<0)∧s1=mag q.num.natAbs∧b2=false∧s2=dm q):isQ b1 s1 b2 s2=false:=by
 rw[←isQ_iff] at h;simpa using h
theorem badI_I(z:Int):badI (decide (z<0)) (mag z.natAbs)=false:=by
 unfold badI
 rw[Bool.or_eq_false_iff]
 refine⟨?_,?_⟩
 ·rw[beq_empty]
  by_cases h:z.natAbs=0
  ·have:z=0:=by omega
   subst this;rfl
  ·simp[h]
 ·have:=canB_mag z.natAbs
  unfold CanB at this
  simpa using this
theorem dm_bad(q:Rat):badI false (dm q)=false:=by
 have h1:(0:Int)≤q.den:=by omega
 unfold dm
 split
 ·unfold badI;rfl
 ·have:=badI_I (q.den:Int)
  rwa [decide_eq_false (by omega),Int.natAbs_natCast] at this
theorem isQ_1{b1:Bool}{s1:ByteArray}{b2:Bool}{s2:ByteArray}(h:badI b1 s1=true):isQ b1 s1 b2 s2=false:=isQ_neg fun⟨q,h1,h2,_,_⟩=>by
 rw[h1,h2,badI_I] at h;cases h
theorem isQ_2{b1:Bool}{s1:ByteArray}{b2:Bool}{s2:ByteArray}(h:badI b2 s2=true):isQ b1 s1 b2 s2=false:=isQ_neg fun⟨q,h1,h2,h3,h4⟩=>by
 rw[h3,h4,dm_bad] at h;cases h
theorem isQ_3{b1:Bool}{s1:ByteArray}{s2:ByteArray}:isQ b1 s1 true s2=false:=isQ_neg fun⟨q,h1,h2,h3,h4⟩=>by cases h3
theorem isQ_4{b1:Bool}{s1:ByteArray}{s2:ByteArray}(h:badI b1 s1=false)(h2:s2=⟨#[]⟩):isQ b1 s1 false s2=true:=by
 obtain⟨z,rfl,rfl⟩:=okI_z h
 exact isQ_iff.2 ⟨(z:Rat),by rw[Rat.num_intCast],by rw[Rat.num_intCast],rfl,by unfold dm;rw[Rat.den_intCast,if_pos rfl,h2]⟩
theorem mag_inj8{m n:Nat}(h:mag m=mag n):m=n:=mag_inj.1 h
theorem gcd1_q{z:Int}{d:Nat}(hd:0<d)(h:Nat.gcd z.natAbs d=1):∃q:Rat,q.num=z∧q.den=d:=⟨⟨z,d,by omega,h⟩,rfl,rfl⟩
theorem isQ_yes{z:Int}{d:Nat}(hd:0<d)(h1:d≠1)(h:Nat.gcd z.natAbs d=1):isQ (decide (z<0)) (mag z.natAbs) false (mag d)=true:=by
 obtain⟨q,rfl,rfl⟩:=gcd1_q hd h
 exact isQ_iff.2 ⟨q,rfl,rfl,rfl,by unfold dm;rw[if_neg h1]⟩
theorem isQ_no{z:Int}{d:Nat}(hd:0<d)(h:d=1∨Nat.gcd z.natAbs d≠1){b:Bool}:isQ b (mag z.natAbs) false (mag d)=false:=isQ_neg fun⟨q,h1,h2,h3,h4⟩=>by
 unfold dm at h4
 have h2:=mag_inj8 h2
 split at h4
 ·rename_i h5
  have:mag d=mag 0:=by rw[h4,mag_zero]
  have:=mag_inj8 this
  omega
 ·rename_i h5
  have:=mag_inj8 h4
  subst this
  rcases h with h|h
  ·exact h5 h
  ·exact h (by rw[h2];exact q.reduced)
theorem bad5F{b:Bool}{s:ByteArray}(h:((if badI b s=true then(5:Int) else 0) !=0)=false):badI b s=false:=by
 cases hb:badI b s
 ·rfl
 ·rw[hb] at h;cases h
theorem bad5T{b:Bool}{s:ByteArray}(h:((if badI b s=true then(5:Int) else 0) !=0)=true):badI b s=true:=by
 cases hb:badI b s
 ·rw[hb] at h;cases h
 ·rfl
theorem eq23_T{b:Bool}{s:ByteArray}(h:((b==false)&&(s==⟨#[]⟩))=true):b=false∧s=⟨#[]⟩:=by
 rw[Bool.and_eq_true] at h
 exact⟨eq_of_beq h.1,ba_nil h.2⟩
theorem eq23_F{z:Int}(h:((decide (z<0)==false)&&(mag z.natAbs==⟨#[]⟩))=false):z≠0:=fun e=>by
 subst e
 rw[show(0:Int).natAbs=0 from rfl,mag_zero,beq_ee] at h;cases h
theorem cmpI_le1{e:Int}(h:decide (cmpI e 1≤0)=true):e≤1:=by
 have:=of_decide_eq_true h
 unfold cmpI at this
 by_cases h1:e<1
 ·omega
 ·rw[if_neg h1] at this
  by_cases h2:1<e
  ·rw[if_pos h2] at this;omega
  ·omega
theorem cmpI_gt1{e:Int}(h:decide (cmpI e 1≤0)=false):1<e:=by
 have:=of_decide_eq_false h
 unfold cmpI at this
 by_cases h1:e<1
 ·rw[if_pos h1] at this;omega
 ·rw[if_neg h1] at this
  by_cases h2:1<e
  ·exact h2
  ·rw[if_neg h2] at this;omega
theorem isQ_8{z e:Int}(h0:e≠0)(h:e≤1):isQ (decide (z<0)) (mag z.natAbs) (decide (e<0)) (mag e.natAbs)=false:=by
 by_cases hn:e<0
 ·rw[decide_eq_true hn];exact isQ_3
 ·rw[decide_eq_false hn]
  exact isQ_no (by omega) (.inl (by omega))
theorem gcd_neT{z e:Int}(h:(!((decide (((Int.gcd z e:Nat):Int)<0)==decide ((1:Int)<0))&&(mag ((Int.gcd z e:Nat):Int).natAbs==mag (1:Int).natAbs)))=true):Int.gcd z e≠1:=fun e1=>by
 rw[e1] at h
 simp[beq_ba] at h
theorem gcd_neF{z e:Int}(h:(!((decide (((Int.gcd z e:Nat):Int)<0)==decide ((1:Int)<0))&&(mag ((Int.gcd z e:Nat):Int).natAbs==mag (1:Int).natAbs)))=false):Int.gcd z e=1:=by
 rw[Bool.not_eq_false',Bool.and_eq_true,beq_ba] at h
 have:=mag_inj8 (of_decide_eq_true h.2)
 simpa using this
theorem isQ_9{z e:Int}(h:1<e)(hg:Int.gcd z e≠1):isQ (decide (z<0)) (mag z.natAbs) (decide (e<0)) (mag e.natAbs)=false:=by
 rw[decide_eq_false (show¬e<0 by omega)]
 exact isQ_no (by omega) (.inr hg)
theorem isQ_10{z e:Int}(h:1<e)(hg:Int.gcd z e=1):isQ (decide (z<0)) (mag z.natAbs) (decide (e<0)) (mag e.natAbs)=true:=by
 rw[decide_eq_false (show¬e<0 by omega)]
 exact isQ_yes (by omega) (by omega) hg
end Go.Via
namespace Go.Proofs.YtfijbadahkmhbaaGreatDoor
open Go Go.RowKit Go.Via
theorem c_rational_Check(b1:Bool)(s1:ByteArray)(b2:Bool)(s2:ByteArray)(hs1:s1.size≤1000000)(hs2:s2.size≤1000000):PCall Tryz.prog 88 #[.agg #[.bool b1,.string s1,.bool b2,.string s2]] (.int .i64 (if isQ b1 s1 b2 s2=true then 0 else 5)):=by
 refine⟨by kernel_rfl,fun w=>?_⟩;refine cB1 31 Tryz.func88 (LRel.nil w) ?_;refine A2 ?_;refine Bo [_,_,_,_] 4 (fun g=>[⟨some g,27,_,4,true⟩]) (fun g0=>?_);refine A7 ?_;refine Ld 0 0 [_,_] ti25 ?_;refine Pc (c_integer_Check b1 s1) ?_;refine A2 ?_;refine Rs 7 ?_ ?_<;>intro hb0
 ·have hI1:badI b1 s1=true:=bad5T hb0;refine A15 ?_;refine E1 fun w hL=>⟨?_,hL.below⟩;rw[isQ_1 hI1];rfl
 ·have hI1:badI b1 s1=false:=bad5F hb0;refine A1 ?_;refine Ld 0 2 [_,_] ti25 ?_;refine Pc (c_integer_Check b2 s2) ?_;refine A4 ?_;refine Cd ?_ ?_<;>intro hb1
  ·have hI2:badI b2 s2=true:=bad5T hb1;refine A7 ?_;refine E1 fun w hL=>⟨?_,hL.below⟩;rw[isQ_2 hI2];rfl
  ·have hI2:badI b2 s2=false:=bad5F hb1;refine A6 ?_;refine Ld 0 2 [_,_] ti25 ?_;refine r_build [] rfl rfl rfl (bd25_0) ?_;refine r_eqlAgg rfl rfl rfl rfl gd25 (eq25r _ _ _ _) ?_;refine A2 ?_;refine Cd ?_ ?_<;>intro hb2
   ·obtain⟨hb2,he2⟩:=eq23_T hb2;refine A7 ?_;refine E1 fun w hL=>⟨?_,hL.below⟩;rw[hb2,isQ_4 hI1 he2];rfl
   ·obtain⟨z,rfl,rfl⟩:=okI_z hI1;obtain⟨e,rfl,rfl⟩:=okI_z hI2;have he0:=eq23_F hb2;rw[mag_size] at hs1 hs2;have hz1:szI z≤1000000:=hs1;have hz2:szI e≤1000000:=hs2;refine A4 ?_;refine at_drawnI [] mixed (by kernel_rfl) (by kernel_rfl) ?_;refine A1 ?_;refine Ld 0 2 [_,_] ti25 ?_;refine Pc (c_rational_one) ?_;refine Pc (c_integer_Compare e 1) ?_;refine A2 ?_;refine Rs 22 ?_ ?_<;>intro hb3
    ·have hle:e≤1:=cmpI_le1 hb3;refine A18 ?_;refine E1 fun w hL=>⟨?_,hL.below⟩;rw[isQ_8 he0 hle];rfl
    ·have hle:1<e:=cmpI_gt1 hb3;refine A1 ?_;refine Ld 0 0 [_,_] ti25 ?_;refine A1 ?_;refine Ld 0 2 [_,_] ti25 ?_;refine Pc (c_integer_Gcd z e (by omega) (by omega)) ?_;refine Pc (c_rational_one) ?_;refine r_neqAgg rfl rfl rfl rfl gd25 (eq25r _ _ _ _) ?_;refine A3 ?_;refine Cd ?_ ?_<;>intro hb4
     ·have hg:=gcd_neT hb4;refine A7 ?_;refine E1 fun w hL=>⟨?_,hL.below⟩;rw[isQ_9 hle hg];rfl
     ·have hg:=gcd_neF hb4;refine A8 ?_;refine E1 fun w hL=>⟨?_,hL.below⟩;rw[isQ_10 hle hg];rfl
end Go.Proofs.YtfijbadahkmhbaaGreatDoor
namespace Go.Via
open Go Go.RowKit
def ECallD(P:Program)(f:Nat)(L0:List Blk)(args:List Value)(X:Type)(res:X→Value)(L1:X→List Blk):Prop:=
 plainF P f=true∧∀(B:Bs) (w:World),B.D=[]→LRel B L0 w→CallsD P f args.toArray .returning w fun e u' w'=>u'= .returning∧∃x,e= .returned (res x)∧LRel B (L1 x) w'
theorem ECallD.at{P:Program}{f:Nat}{L A C:List Blk}{args:List Value}{X:Type}{res:X→Value}{L1:X→List Blk}(hc:ECallD P f (A++C) args X res L1)(ks is:List Nat)(hn:ks.Nodup)(hk:ks.map (fun k=>L[k]?)=A.map some)
 (hA:(A.all fun b=>b.own&&(Nat.blt b.e mapMark||b.base.isSome))=true)(hp:Picks L (is.map some) C)(hC:(C.all fun b=> !b.own)=true)(hap:apartB ((ks++is).map some) ((A++C).map (·.own))=true)(hlen:∀x,Nat.ble ks.length (L1 x).length=true)(hown:∀x,∀b∈L1 x,b.own=true∨∃a∈A,a.base=b.base∧b.base.isSome=true)
 {B:Bs}{w:World}(h:LRel B L w):CallsD P f args.toArray .returning w fun e u' w'=>u'= .returning∧∃x,e= .returned (res x)∧LRel B (setG L ks (L1 x)) w':=by
 obtain⟨B',hD,h2,hb⟩:=lrel_frame ks is hn hk hA hp hC hap h
 refine(hc.2 B' w hD h2).mono ?_
 rintro e u' w' ⟨hu,x,rfl,hx⟩
 exact⟨hu,x,rfl,hb _ _ (hlen x) (hown x) hx⟩
theorem callsD_atB{P:Program}{f:Nat}{fn:Func}{c:Code}{args:List Value}{u:FrameMode}{B:Bs}{w:World}{R:Ending→World→Prop}{L:List Blk}(hf:P.funcs[f]? =some fn)(hb:fn.body=some c)(hn:args.length≤fn.ntmps)(hL:LRel B L w)
 (h:At B ⟨fn.ntmps,argT 0 args,L⟩ (c.wp P (bodyPost P fn R)))(hD:B.D=[]:=by first|rfl|assumption):CallsD P f args.toArray u w fun e u' w'=>u'=u∧R e w':=by
 refine callsD_of_wp hf hb (h _ _ ⟨hD.symm,?_,fun d v hd=>?_,hL⟩)
 ·simp;omega
 ·obtain⟨_,h2⟩:=argT_look hd
  simp only[Nat.sub_zero] at h2
  have hlt:=(List.getElem?_eq_some_iff.1 h2).1
  simp only[List.size_toArray]
  rw[Array.getElem?_append_left (by simpa using hlt)]
  simpa using h2
theorem calls_atD{P:Program}{f:Nat}{fn:Func}{c:Code}{args:List Value}{B:Bs}{w:World}{R:Ending→World→Prop}{L:List Blk}(hf:P.funcs[f]? =some fn)(hb:fn.body=some c)(hn:args.length≤fn.ntmps)(hL:LRel B L w)
 (h:At B ⟨fn.ntmps,argT 0 args,L⟩ (c.wp P (bodyPostD P fn R)))(hD:B.D=[]:=by first|rfl|assumption):Calls P f args.toArray w R:=by
 refine calls_of_wp_defers hf hb (h _ _ ⟨hD.symm,?_,fun d v hd=>?_,hL⟩)
 ·simp;omega
 ·obtain⟨_,h2⟩:=argT_look hd
  simp only[Nat.sub_zero] at h2
  have hlt:=(List.getElem?_eq_some_iff.1 h2).1
  simp only[List.size_toArray]
  rw[Array.getElem?_append_left (by simpa using hlt)]
  simpa using h2
theorem at_end0D{P:Program}{B:Bs}{fn:Func}{R:Ending→World→Prop}{s:St}(hfn:fn.results= #[])(hR:∀w,LRel B s.L w→R (.returned (.tuple #[])) w)(hD:B.D=[]:=by first|rfl|assumption):At B s (bodyPostD P fn R .ret):=fun a w hr=>by
 show Leaves P fn a.tmps R a.defers .returning w
 rw[hr.df.trans hD]
 exact⟨.tuple #[],by simp[results,hfn],hR w hr.mem⟩
theorem at_end0nD{P:Program}{B:Bs}{fn:Func}{R:Ending→World→Prop}{s:St}(hfn:fn.results= #[])(hR:∀w,LRel B s.L w→R (.returned (.tuple #[])) w)(hD:B.D=[]:=by first|rfl|assumption):At B s (bodyPostD P fn R .normal):=fun a w hr=>by
 show Leaves P fn a.tmps R a.defers .returning w
 rw[hr.df.trans hD]
 exact⟨.tuple #[],by simp[results,hfn],hR w hr.mem⟩
theorem at_leave1{P:Program}{B:Bs}{fn:Func}{R:Ending→World→Prop}{s:St}{f:Nat}{vs:List Value}(hfn:fn.results= #[])(hpl:plainF P f=true)
 (h:∀w,LRel B s.L w→CallsD P f vs.toArray .returning w fun e u' w'=>u'= .returning∧∃v,e= .returned v∧R (.returned (.tuple #[])) w')(hD:B.D=[{target:= .fn (.func f) #[],args:=vs.toArray}]:=by first|rfl|assumption):At B s (bodyPostD P fn R .ret):=fun a w hr=>by
 show Leaves P fn a.tmps R a.defers .returning w
 rw[hr.df.trans hD]
 refine⟨by simp,.func f,#[],f,vs.toArray,rfl,?_,?_⟩
 ·unfold plainF at hpl
  cases hq:P.funcs[f]? with
  |none=>rw[hq] at hpl;cases hpl
  |some fn=>
   rw[hq] at hpl
   simp only[Bool.and_eq_true,Bool.not_eq_true'] at hpl
   obtain⟨h1,h2⟩:=hpl
   have h3:fn.body≠none:=by intro hb;rw[hb] at h1;cases h1
   have h4:¬fn.name= "runtime.NumGoroutine" :=by simpa using h2
   simp[invoke,callFunc,hq,h4,h3]
 ·refine(h w hr.mem).mono ?_
  rintro e u' w' ⟨rfl,v,rfl,hR⟩
  exact⟨.tuple #[],by simp[results,hfn],hR⟩
def NB(l:Bs8):List Value:=l.map fun b=> .int .u8 (b.toNat:Nat)
theorem NB_append(a b:Bs8):NB (a++b)=NB a++NB b:=by simp[NB]
theorem NB_length(l:Bs8):(NB l).length=l.length:=by simp[NB]
theorem strCells_NB(l:Bs8):Lib.strCells (strU l)=NB l:=by
 unfold Lib.strCells NB strU
 rfl
section
variable{P:Program}{bl:List Nat}{ops:Array Oper}{K:St→Prop}{rest:List Oper}{nt:Nat}{t:List (Nat×Value)}{L:List Blk}{d:Nat}{ty:TypeId}{pos:String}{af:Array Edge}{g:Option (Nat×Bool)}{x y:Operand}
theorem r_appendStr{T U e:Nat}{b:Blk}{len cap:Nat}{l:Bs8}(k:Nat)(mk:OR (len+l.length) 1→List Blk)(hT:P.underlying T=some (.slice e))(hU:P.underlying U=some .string)(hi:elB P e 1 (.int .u8 0))(hd:Nat.blt d nt=true)
 (hg:wantedS ops ⟨some d,.call {callee:= .builtin .append,args:= #[x,y],argTypes:= #[T,U]},ty,pos,af,g⟩ t=some true)
 (hk:L[k]? =some b)(ho:b.own=true)(he:b.e=e)(hx:ev t x=some (slv b.base 0 len cap))(hy:ev t y=some (.string (strU l)))(hlen:b.cs.length=len)(hcap:len≤cap)(hn:cap≤b.n)(hz:b.base=none↔cap=0)(hmax:len+l.length≤17179869184)
 (hL:∀r,L.set k ⟨r.b,e,b.cs++NB l,r.n,true⟩=mk r)
 (h:∀r:OR (len+l.length) 1,(r.b=none↔r.cap=0)→Run P bl ops rest ⟨nt,(d,slv r.b 0 (len+l.length) r.cap)::t,mk r⟩ K):
 Run P bl ops (⟨some d,.call {callee:= .builtin .append,args:= #[x,y],argTypes:= #[T,U]},ty,pos,af,g⟩::rest) ⟨nt,t,L⟩ K:=by
 subst he
 obtain⟨inf,i1,i2,i3,i5⟩:=elB_spec hi
 have hem:=hi.2
 refine run_e hd hg rfl rfl (X:={r:OR (len+l.length) 1 // r.b=none↔r.cap=0}) (nx:=fun r=>⟨nt,(d,slv r.1.b 0 (len+l.length) r.1.cap)::t,mk r.1⟩) (fun hd'=>eff_of fun B a w hr=>?_) (fun r=>h r.1 r.2)
 have hx':=hr.ev hx
 have hy':=hr.ev hy
 have fin:∀v w',(Builtin.append_ #[T,U] ty #[slv b.base 0 len cap,.string (strU l)]).run P w= .ok v w'→(execOp a.eval ⟨some d,.call {callee:= .builtin .append,args:= #[x,y],argTypes:= #[T,U]},ty,pos,af,g⟩).run P w= .ok (.value v) w':=fun v w' hv=>by
  simp[execOp,resolve,invoke,builtin,hx',hy',hv]
 have hsz:(strU l).size=l.length:=strU_size l
 have hsc:=strCells_NB l
 by_cases hroom:len+l.length≤cap
 ·cases hbb:b.base with
  |none=>
   have h0:=hz.1 hbb
   have hl0:l=[]:=List.eq_nil_of_length_eq_zero (by omega)
   have hlen0:len=0:=by omega
   subst hl0
   have hf:=Lib.run_firstCells_string (P:=P) w inf.size (strU [])
   rw[hsz,i3,hsc] at hf
   have r1:(Builtin.append_ #[T,U] ty #[slv b.base 0 len cap,.string (strU [])]).run P w= .ok (slv none 0 0 0) w:=by
    rw[hbb,h0,hlen0]
    unfold slv
    simp only[List.length_nil] at hf hsz
    simp[Builtin.append_,run_underlying hT,run_underlying hU,sizeOf,typeInfo,i1,i3,Builtin.lenOf,hsz,hf,hsc,NB]
   refine⟨_,_,⟨(⟨none,b.n,0,by simp[hlen0],by omega⟩:OR (len+([]:Bs8).length) 1),by simp⟩,fin _ _ r1,?_⟩
   have hLb:L.set k ⟨none,b.e,b.cs++NB [],b.n,true⟩=L:=by
    rw[show(⟨none,b.e,b.cs++NB [],b.n,true⟩:Blk)=⟨b.base,b.e,b.cs,b.n,b.own⟩ by rw[hbb,ho];simp[NB]]
    obtain⟨q1,q2⟩:=List.getElem?_eq_some_iff.1 hk
    rw[←q2];exact List.set_getElem_self q1
   have:=hL ⟨none,b.n,0,by simp[hlen0],by omega⟩
   rw[hLb] at this
   dsimp only
   rw[←this]
   have e1:len+([]:Bs8).length=0:=by simp[hlen0]
   rw[e1]
   exact hr.put hd' hr.mem
  |some gg=>
   have hc0:cap≠0:=fun h=>by have:=hz.2 h;rw[hbb] at this;cases this
   have hne:b.n≠0:=by omega
   obtain⟨cur,⟨e',fr,c1,cfr,_⟩,c2',c3⟩:=((hr.mem.blk k b hk).1 gg hbb).cells (.inl hne)
   obtain⟨rfl,rfl⟩:=cfr ho
   have r1:=Lib.run_append_room_string (P:=P) w T U ty b.e inf hT hU i1 i3 gg len cap cur c1 (strU l) (by rw[hsz];exact hroom) (by rw[hsz];omega)
   rw[hsz,hsc] at r1
   refine⟨_,_,⟨(⟨some gg,b.n,cap,hroom,by omega⟩:OR (len+l.length) 1),by simp[hc0]⟩,fin _ _ (by rw[hbb];unfold slv;exact r1),?_⟩
   refine hr.put hd' ?_
   rw[←hL]
   have hcur:cur.toList.take len=b.cs:=by rw[←hlen];exact c3
   have h5:=hr.mem.set hk ho hbb (cur.toList.take len++NB l++cur.toList.drop (len+l.length)).toArray (b.cs++NB l)
    (by simp only[List.size_toArray,List.length_append,List.length_take,List.length_drop,Array.length_toList,NB_length];omega)
    (by
 rw[hcur]
 exact List.take_left)
   rw[hbb,ho] at h5
   exact h5
 ·have hge:=grownCap_ge w (len+l.length) cap b.e
  have hfit:Builtin.nextslicecap (len+l.length) cap*inf.bytes≤281474976710656:=by
   have hbb:(len+l.length)*inf.bytes≤17179869184*1024:=Nat.mul_le_mul hmax (Nat.le_trans i5 (by decide:512≤1024))
   exact growslice_fits (by omega) (by omega)
  have r1:(Builtin.append_ #[T,U] ty #[slv b.base 0 len cap,.string (strU l)]).run P w=
   .ok (.slice (some ⟨w.heap.size,0,none⟩) (len+l.length) (grownCap w (len+l.length) cap b.e))
    (w.drew.alloc (.cells (b.cs.toArray++(NB l).toArray++Builtin.zeroCells (Value.int .u8 0).cells (grownCap w (len+l.length) cap b.e-(len+l.length))) b.e)):=by
   cases hbb:b.base with
   |none=>
    have h0:=hz.1 hbb
    have hlen0:len=0:=by omega
    have hcs:b.cs=[]:=((hr.mem.blk k b hk).2 hbb).1
    have:=run_append_nil_string (P:=P) w T U ty b.e inf (.int .u8 0) hT hU i1 i2 (strU l) (by rw[hsz];omega) (by rw[hsz];omega) (by rw[hsz];have h9:=Nat.mul_le_mul (show l.length≤17179869184 by omega) i5;omega)
    have e1:((strU l).data.map fun b=>Value.int .u8 b.toNat)=(NB l).toArray:=by
     rw[←hsc]
     apply Array.ext'
     simp[Lib.strCells]
    rw[e1,hsz] at this
    rw[h0,hlen0,hcs]
    unfold slv
    simpa using this
   |some gg=>
    have:=Lib.run_append_grow_string (P:=P) w T U ty b.e inf (.int .u8 0) hT hU i1 i2 ⟨gg,0,none⟩ len cap b.cs (by rw[i3,Nat.mul_one];exact hlen) (fun j v hj=>by
 obtain⟨g',hg',h2⟩:=hr.mem.cell hk hj
 rw[hbb] at hg';cases hg'
 rw[add_lit,Nat.zero_add]
 exact h2) (strU l) (by rw[hsz];omega) (by rw[hsz];omega) (by rw[hsz];exact hfit)
    rw[hsz,hsc] at this
    unfold slv
    exact this
  have hzc:(Builtin.zeroCells (Value.int .u8 0).cells (grownCap w (len+l.length) cap b.e-(len+l.length))).size=grownCap w (len+l.length) cap b.e-(len+l.length):=by
   rw[size_zeroCells]
   show _*1=_
   omega
  refine⟨_,_,⟨(⟨some w.heap.size,((b.cs.toArray++(NB l).toArray++Builtin.zeroCells (Value.int .u8 0).cells (grownCap w (len+l.length) cap b.e-(len+l.length))):Array Value).size,grownCap w (len+l.length) cap b.e,hge,?_⟩:OR (len+l.length) 1),by simp;omega⟩,fin _ _ r1,?_⟩
  ·simp only[Array.size_append,hzc,List.size_toArray,NB_length]
   omega
  ·refine hr.put hd' ?_
   rw[←hL]
   have h5:=(hr.mem.drew.alloc b.e (b.cs.toArray++(NB l).toArray++Builtin.zeroCells (Value.int .u8 0).cells (grownCap w (len+l.length) cap b.e-(len+l.length))) hem)
   refine(h5.last (b':=⟨some w.heap.size,b.e,b.cs++NB l,((b.cs.toArray++(NB l).toArray++Builtin.zeroCells (Value.int .u8 0).cells (grownCap w (len+l.length) cap b.e-(len+l.length))):Array Value).size,true⟩) ⟨rfl,rfl,rfl,⟨(b.cs++NB l).length,?_⟩,fun _=>rfl⟩).swapIn k
   simp only[Array.toList_append]
   exact(List.take_left (l₁:=b.cs++NB l)).symm
theorem r_ptrNil{T U:Nat}{v:Option Addr}{te:TypeId}{r:Bool}(hT:P.underlying T=some (.pointer te))(hd:Nat.blt d nt=true)(hg:wantedS ops ⟨some d,.binOp .eql T x y U,ty,pos,af,g⟩ t=some true)(hx:ev t x=some (.pointer v))(hy:ev t y=some (.pointer none))(hr:v.isNone=r)
 (h:Run P bl ops rest ⟨nt,(d,.bool r)::t,L⟩ K):Run P bl ops (⟨some d,.binOp .eql T x y U,ty,pos,af,g⟩::rest) ⟨nt,t,L⟩ K:=
 run_q hd hg rfl (fun B a w hrel=>by
 subst hr
 have h:∀d:Nat,(Op.equalIn (d+1) T (.pointer v) (.pointer none)).run P w= .ok v.isNone w:=fun d=>by
  cases v<;>simp[Op.equalIn,run_underlying hT]
 simp only[execOp,hrel.ev hx,hrel.ev hy,eqGuard,binOp]
 simp[Op.equal,Op.maxDepth,h 9999]) h
theorem r_ptrSame{T U:Nat}{a0:Addr}{te:TypeId}(hT:P.underlying T=some (.pointer te))(hte0:(P.info? te).isSome=true)(hd:Nat.blt d nt=true)(hg:wantedS ops ⟨some d,.binOp .neq T x y U,ty,pos,af,g⟩ t=some true)(hx:ev t x=some (.pointer (some a0)))(hy:ev t y=some (.pointer (some a0)))
 (h:Run P bl ops rest ⟨nt,(d,.bool false)::t,L⟩ K):Run P bl ops (⟨some d,.binOp .neq T x y U,ty,pos,af,g⟩::rest) ⟨nt,t,L⟩ K:=
 run_q hd hg rfl (fun B a w hrel=>by
 obtain⟨j,hte⟩:=Option.isSome_iff_exists.1 hte0
 have:=Lib.run_neq_ptr_same (P:=P) w a0 hT hte
 simp[execOp,hrel.ev hx,hrel.ev hy,eqGuard,this]) h
end
theorem LRel.shape{B:Bs}{w:World}{L:List Blk}(h:LRel B L w){k:Nat}{b:Blk}(hk:L[k]? =some b)(ho:b.own=true){g:Nat}(hg:b.base=some g)(hn:b.n≠0):w.shape? g=some (b.e,b.n):=by
 obtain⟨cur,⟨e',fr,h3,hfr,_⟩,h4,h5⟩:=((h.blk k b hk).1 g hg).cells (.inl hn)
 obtain⟨rfl,rfl⟩:=hfr ho
 simp[World.shape?,h3,h4]
section
variable{P:Program}{bl:List Nat}{ops:Array Oper}{K:St→Prop}{rest:List Oper}{nt:Nat}{t:List (Nat×Value)}{L:List Blk}{d:Nat}{ty:TypeId}{pos:String}{af:Array Edge}{g:Option (Nat×Bool)}{x y:Operand}
theorem r_toUnsafe{src dst te:Nat}{b:Blk}{gg:Nat}(k:Nat)(hs:P.underlying src=some (.pointer te))(hd':P.underlying dst=some .unsafePointer)(ht0:(P.info? te).any (fun j=>j.size !=0)=true)(hd:Nat.blt d nt=true)(hg:wantedS ops ⟨some d,.convert src dst x,ty,pos,af,g⟩ t=some true)
 (hk:(blank bl L)[k]? =some b)(ho:b.own=true)(hb:b.base=some gg)(hn:Nat.blt 0 b.n=true)(hx:ev t x=some (.pointer (some ⟨gg,0,none⟩)))(h:Run P bl ops rest ⟨nt,(d,.pointer (some ⟨gg,0,none⟩))::t,L⟩ K):
 Run P bl ops (⟨some d,.convert src dst x,ty,pos,af,g⟩::rest) ⟨nt,t,L⟩ K:=
 run_q hd hg rfl (fun B a w hr=>by
 have hn':0<b.n:=by simpa using hn
 obtain⟨j,ht,hj⟩:∃j,P.info? te=some j∧(j.size !=0)=true:=by
  cases hq:P.info? te with
  |none=>rw[hq] at ht0;cases ht0
  |some j=>rw[hq] at ht0;exact⟨j,rfl,ht0⟩
 have h1:=Lib.run_to_unsafe (P:=P) w ⟨gg,0,none⟩ hs hd' ht (by simpa using hj) (hr.mem.shape hk ho hb (by omega)) hn'
 simp[execOp,hr.ev hx,h1]) h
theorem r_fromUnsafe{src dst u:Nat}{b:Blk}{gg:Nat}(k:Nat)(hs:P.underlying src=some .unsafePointer)(hd':P.underlying dst=some (.pointer u))(hu0:(P.info? u).isSome=true)(hd:Nat.blt d nt=true)(hg:wantedS ops ⟨some d,.convert src dst x,ty,pos,af,g⟩ t=some true)
 (hk:(blank bl L)[k]? =some b)(ho:b.own=true)(hb:b.base=some gg)(hn:Nat.blt 0 b.n=true)(hlies:liesAt P P.depth b.e (b.n/P.cellsOf b.e) 0 u 1=true)(hx:ev t x=some (.pointer (some ⟨gg,0,none⟩)))(h:Run P bl ops rest ⟨nt,(d,.pointer (some ⟨gg,0,none⟩))::t,L⟩ K):
 Run P bl ops (⟨some d,.convert src dst x,ty,pos,af,g⟩::rest) ⟨nt,t,L⟩ K:=
 run_q hd hg rfl (fun B a w hr=>by
 have hn':0<b.n:=by simpa using hn
 obtain⟨j,hu⟩:=Option.isSome_iff_exists.1 hu0
 have h1:=Lib.run_from_unsafe (P:=P) w ⟨gg,0,none⟩ hs hd' hu (hr.mem.shape hk ho hb (by omega)) hlies
 simp[execOp,hr.ev hx,h1]) h
theorem r_noEscape{f:Nat}{fn:Func}{v:Value}{ts:Array TypeId}(hf:P.funcs[f]? =some fn)(hname:(fn.name== "runtime.NumGoroutine")=false)(hb:fn.body.isNone=true)(hn:Extern.findNext fn=none)(he:Extern.find fn=some Extern.AbiNoEscape.same)(hd:Nat.blt d nt=true)
 (hg:wantedS ops ⟨some d,.call {callee:= .value (.func f),args:= #[x],argTypes:=ts},ty,pos,af,g⟩ t=some true)(hx:ev t x=some v)(h:Run P bl ops rest ⟨nt,(d,v)::t,L⟩ K):
 Run P bl ops (⟨some d,.call {callee:= .value (.func f),args:= #[x],argTypes:=ts},ty,pos,af,g⟩::rest) ⟨nt,t,L⟩ K:=
 run_qc hd hg rfl (fun B a w hrel=>by
 have h1:(callFunc f #[v]).run P w= .ok (.value v) w:=by
  rw[run_callFunc_extern hf hname hb hn he,Lib.run_noEscape];rfl
 have hf':a.eval (.func f)= .func (.func f) #[] #[]:=rfl
 have hv:(#[x]:Array Operand).map a.eval= #[v]:=by
  show(([x]:List Operand).toArray).map a.eval=_
  rw[List.map_toArray,List.map_cons,List.map_nil,hrel.ev hx]
 simp only[execOp,resolve,hf',hv,Deferred.ofValue,invoke,Sem.run_bind,Sem.run_pure,Result.andThen_ok]
 simpa using h1) h
theorem r_sliceData{T:Nat}{b:Option Nat}{len cap:Nat}(hz:b=none↔cap=0)(hd:Nat.blt d nt=true)
 (hg:wantedS ops ⟨some d,.call {callee:= .builtin .unsafeSliceData,args:= #[x],argTypes:= #[T]},ty,pos,af,g⟩ t=some true)(hx:ev t x=some (slv b 0 len cap))(h:Run P bl ops rest ⟨nt,(d,.pointer (b.map fun g=>⟨g,0,none⟩))::t,L⟩ K):
 Run P bl ops (⟨some d,.call {callee:= .builtin .unsafeSliceData,args:= #[x],argTypes:= #[T]},ty,pos,af,g⟩::rest) ⟨nt,t,L⟩ K:=
 run_q hd hg rfl (fun B a w hrel=>by
 have h1:(Builtin.unsafeSliceData_ #[T] ty #[slv b 0 len cap]).run P w= .ok (.pointer (b.map fun g=>⟨g,0,none⟩)) w:=by
  cases b with
  |none=>exact Lib.run_unsafeSliceData_nil ..
  |some gg=>exact Lib.run_unsafeSliceData_row _ _ _ _ _ _ (fun h=>by have:=hz.2 h;cases this)
 simp[execOp,resolve,invoke,builtin,hrel.ev hx,h1]) h
end
theorem LRel.freezeN{B:Bs}{w:World}{L:List Blk}(h:LRel B L w){gg:Nat}(hB:B.own gg)(hno:∀c∈L,c.own=true→c.base≠some gg){cur:Array Value}{e':TypeId}{fr:Nat×Nat}(a1:w.heap[gg]? =some (.cells cur e' fr))(n:Nat):
 LRel B L (w.freeze ⟨gg,0,none⟩ n)∧∃fr',(w.freeze ⟨gg,0,none⟩ n).heap[gg]? =some (.cells cur e' fr'):=by
 have hfz:∀i,i≠gg→(w.freeze ⟨gg,0,none⟩ n).heap[i]? =w.heap[i]? :=fun i hi=>by
  unfold World.freeze
  split
  ·rfl
  ·simp only[Array.getElem?_modify]
   rw[if_neg (fun e=>hi e.symm)]
 have hsz:(w.freeze ⟨gg,0,none⟩ n).heap.size=w.heap.size:=by
  unfold World.freeze
  split
  ·rfl
  ·simp
 have hgg:∃fr',(w.freeze ⟨gg,0,none⟩ n).heap[gg]? =some (.cells cur e' fr'):=by
  unfold World.freeze
  split
  ·exact⟨_,a1⟩
  ·simp only[Array.getElem?_modify,a1]
   exact⟨_,rfl⟩
 refine⟨?_,hgg⟩
 obtain⟨fr',hgg⟩:=hgg
 have hcell:∀p:Nat×List Value,TabCell w p→TabCell (w.freeze ⟨gg,0,none⟩ n) p:=fun p hp=>by
  by_cases e:p.1=gg
  ·rcases hp with⟨cur',e'',fr'',s1,s2⟩|⟨_,_,s1,_⟩
   ·rw[e,a1] at s1
    cases s1
    exact .inl ⟨cur,e',fr',by rw[e];exact hgg,s2⟩
   ·rw[e,a1] at s1;cases s1
  ·exact hp.heap (hfz p.1 e)
 refine⟨h.bel.one hB (by unfold World.freeze;split<;>rfl) (by unfold World.freeze;split<;>rfl) (by unfold World.freeze;split<;>rfl) (by rw[hsz];exact Nat.le_refl _) hfz,fun j c hj=>?_,h.apart,fun c hc hn T hT he p hp=>?_⟩
 ·obtain⟨q1,q2⟩:=h.blk j c hj
  refine⟨fun g' hg'=>?_,q2⟩
  by_cases e:g'=gg
  ·subst e
   obtain⟨r1,r2⟩:=q1 g' hg'
   have hco:c.own=false:=by
    rw[←Bool.not_eq_true];exact fun ho'=>hno c (List.mem_of_getElem? hj) ho' hg'
   refine⟨?_,r2⟩
   rcases r1 with⟨cur',⟨e'',fr'',s1,s2,s3⟩,s4,s5⟩|⟨l,es,cl,_,_,_,_,s,_⟩
   ·rw[a1] at s1
    cases s1
    exact .inl ⟨cur,⟨e',fr',hgg,(fun h=>by rw[hco] at h;cases h),s3⟩,s4,s5⟩
   ·rw[a1] at s;cases s
  ·exact(q1 g' hg').heap (hfz g' e)
 ·obtain⟨b1,b2,b3⟩:=h.grp c hc hn T hT he p hp
  exact⟨hcell p b1,b2,b3⟩
theorem LRel.freezeG{B:Bs}{w:World}{L:List Blk}(h:LRel B L w){k:Nat}{b:Blk}(hk:L[k]? =some b)(ho:b.own=true){gg:Nat}(hb:b.base=some gg)(cs:List Value)(hcs:b.cs=cs)(hnt:noTy cs=true)(hne:b.n≠0)(hT:gtOK [(gg,cs),(gg,tyRow b.e b.n)]=true)(n:Nat):
 LRel B (L.set k (gB [(gg,cs),(gg,tyRow b.e b.n)] true)) (w.freeze ⟨gg,0,none⟩ n):=by
 subst hcs
 obtain⟨h1,h2⟩:=(h.blk k b hk).1 gg hb
 obtain⟨cur,⟨e',fr,a1,a4,_⟩,a2,a3⟩:=(BlkAt.cells ⟨h1,h2⟩ (.inl hne):CellsAt w b gg)
 have hother:∀c∈L.set k blk0,c.own=true→c.base≠some gg:=fun c hc hoc hg=>by
  obtain⟨j,hj⟩:=List.mem_iff_getElem?.1 hc
  by_cases e:k=j
  ·subst e
   rw[List.getElem?_set_self (List.getElem?_eq_some_iff.1 hk).1] at hj
   cases hj;cases hoc
  ·rw[List.getElem?_set_ne e] at hj
   exact h.apart k j gg b c e hk hj ho hb hg
 have hkl:=(List.getElem?_eq_some_iff.1 hk).1
 obtain⟨h3,fr',hgg⟩:=(h.blank1 k).freezeN (h2 ho) hother a1 n
 have h4:=h3.setG (j:=k) (b:=blk0) (List.getElem?_set_self hkl) rfl [(gg,b.cs),(gg,tyRow b.e b.n)] true hT (fun p hp=>by
 rcases List.mem_cons.1 hp with rfl|hp
 ·exact⟨.inl ⟨cur,e',fr',hgg,.inl ⟨hnt,by show Agr b.cs (cur.toList.take b.cs.length);rw[a3];exact Agr.refl _⟩⟩,fun _=>h2 ho,hother⟩
 ·obtain rfl:=List.mem_singleton.1 hp
  exact⟨.inl ⟨cur,e',fr',hgg,.inr (by rw[(a4 ho).1,a2])⟩,fun _=>h2 ho,hother⟩)
 rw[List.set_set] at h4
 exact h4
theorem LRel.nilG{B:Bs}{w:World}{L:List Blk}(h:LRel B L w){k:Nat}{b:Blk}(hk:L[k]? =some b)(hb:b.base=none):LRel B (L.set k (gB [] true)) w:=
 h.setG hk hb [] true rfl (fun p hp=>by cases hp)
section
variable{P:Program}{bl:List Nat}{ops:Array Oper}{K:St→Prop}{rest:List Oper}{nt:Nat}{t:List (Nat×Value)}{L:List Blk}{d:Nat}{ty:TypeId}{pos:String}{af:Array Edge}{g:Option (Nat×Bool)}{x y:Operand}
def bufT(b:Option Nat)(s:Bs8)(e n:Nat):Tab:=match b with
 |some g=>[(g,NB s),(g,tyRow e n)]
 |none=>[]
theorem NB_simple(s:Bs8):(NB s).all Value.simpleT=true:=by
 refine List.all_eq_true.2 fun v hv=>?_
 simp only[NB,List.mem_map] at hv
 obtain⟨c,_,rfl⟩:=hv
 rfl
theorem bufT_ok(b:Option Nat)(s:Bs8)(e n:Nat):gtOK (bufT b s e n)=true:=by
 cases b with
 |none=>rfl
 |some g=>
  show((NB s).all Value.simpleT&&(true&&true))=true
  rw[NB_simple]
  rfl
theorem noTy_NB(s:Bs8):noTy (NB s)=true:=by
 unfold noTy
 split
 ·rename_i h
  rcases s with _|⟨a,_|⟨b,s⟩⟩<;>simp[NB] at h
 ·rfl
theorem r_unsafeString{pt it e:Nat}{b:Blk}{s:Bs8}(k:Nat)(hp:P.underlying pt=some (.pointer e))(hce:P.cellsOf e=1)(hmax:s.length≤17179869184)(hd:Nat.blt d nt=true)
 (hg:wantedS ops ⟨some d,.call {callee:= .builtin .unsafeString,args:= #[x,y],argTypes:= #[pt,it]},ty,pos,af,g⟩ t=some true)
 (hk:L[k]? =some b)(ho:b.own=true)(he:b.e=e)(hcs:b.cs=NB s)(hn:s.length≤b.n)(hz:b.base≠none→b.n≠0)(hx:ev t x=some (.pointer (b.base.map fun g=>⟨g,0,none⟩)))(hy:ev t y=some (.int .i64 (s.length:Nat)))
 (h:Run P bl ops rest ⟨nt,(d,.string (strU s))::t,L.set k (gB (bufT b.base s e b.n) true)⟩ K):
 Run P bl ops (⟨some d,.call {callee:= .builtin .unsafeString,args:= #[x,y],argTypes:= #[pt,it]},ty,pos,af,g⟩::rest) ⟨nt,t,L⟩ K:=by
 refine run_e hd hg rfl rfl (X:=Unit) (nx:=fun _=>⟨nt,(d,.string (strU s))::t,L.set k (gB (bufT b.base s e b.n) true)⟩) (fun hd'=>eff_of fun B a w hr=>?_) (fun _=>h)
 have hx':=hr.ev hx
 have hy':=hr.ev hy
 have fin:∀v w',(Builtin.unsafeString_ #[pt,it] ty #[.pointer (b.base.map fun g=>⟨g,0,none⟩),.int .i64 (s.length:Nat)]).run P w= .ok v w'→(execOp a.eval ⟨some d,.call {callee:= .builtin .unsafeString,args:= #[x,y],argTypes:= #[pt,it]},ty,pos,af,g⟩).run P w= .ok (.value v) w':=fun v w' hv=>by
  simp[execOp,resolve,invoke,builtin,hx',hy',hv]
 cases hbb:b.base with
 |none=>
  have h0:s=[]:=by
   have:=((hr.mem.blk k b hk).2 hbb).1
   rw[hcs] at this
   cases s with
   |nil=>rfl
   |cons c s=>cases this
  subst h0
  have h1:=Lib.run_unsafeString_none (P:=P) w pt it ty (b.base.map fun g=>⟨g,0,none⟩)
  exact⟨_,w,(),fin _ _ h1,hr.put hd' (hr.mem.nilG hk hbb)⟩
 |some gg=>
  have hne:=hz (by rw[hbb];exact fun h=>by cases h)
  have hfz:=fun n=>hr.mem.freezeG hk ho hbb (NB s) hcs (noTy_NB s) hne (bufT_ok (some gg) s b.e b.n) n
  rw[he] at hfz
  by_cases h0:s=[]
  ·subst h0
   have h1:=Lib.run_unsafeString_none (P:=P) w pt it ty (b.base.map fun g=>⟨g,0,none⟩)
   have h2:=hfz 0
   have hw:w.freeze ⟨gg,0,none⟩ 0=w:=by unfold World.freeze;rfl
   rw[hw] at h2
   exact⟨_,w,(),fin _ _ h1,hr.put hd' h2⟩
  ·have h1:=Lib.run_unsafeString_row (P:=P) w pt it ty e hp hce gg b.n (by rw[←he];exact hr.mem.shape hk ho hbb hne) s h0 hn (by omega) (fun j c hj=>by
 have hj2:b.cs[j]? =some (.int .u8 (c.toNat:Nat)):=by
  rw[hcs];unfold NB;rw[List.getElem?_map,hj];rfl
 obtain⟨g',hg',h2⟩:=hr.mem.cell hk hj2
 rw[hbb] at hg';cases hg'
 rw[add_lit,Nat.zero_add]
 exact h2)
   exact⟨_,_,(),fin _ _ (by rw[hbb];exact h1),hr.put hd' (hfz _)⟩
theorem r_unsafeString2{pt it e n:Nat}{s:Bs8}{bb:Option Nat}(k:Nat)(hp:P.underlying pt=some (.pointer e))(hce:P.cellsOf e=1)(hmax:s.length≤17179869184)(hd:Nat.blt d nt=true)
 (hg:wantedS ops ⟨some d,.call {callee:= .builtin .unsafeString,args:= #[x,y],argTypes:= #[pt,it]},ty,pos,af,g⟩ t=some true)
 (hk:L[k]? =some (gB (bufT bb s e n) true))(hn:s.length≤n)(hb:bb=none→s=[])(hx:ev t x=some (.pointer (bb.map fun g=>⟨g,0,none⟩)))(hy:ev t y=some (.int .i64 (s.length:Nat)))
 (h:Run P bl ops rest ⟨nt,(d,.string (strU s))::t,L⟩ K):
 Run P bl ops (⟨some d,.call {callee:= .builtin .unsafeString,args:= #[x,y],argTypes:= #[pt,it]},ty,pos,af,g⟩::rest) ⟨nt,t,L⟩ K:=by
 refine run_e hd hg rfl rfl (X:=Unit) (nx:=fun _=>⟨nt,(d,.string (strU s))::t,L⟩) (fun hd'=>eff_of fun B a w hr=>?_) (fun _=>h)
 have hx':=hr.ev hx
 have hy':=hr.ev hy
 have fin:∀v w',(Builtin.unsafeString_ #[pt,it] ty #[.pointer (bb.map fun g=>⟨g,0,none⟩),.int .i64 (s.length:Nat)]).run P w= .ok v w'→(execOp a.eval ⟨some d,.call {callee:= .builtin .unsafeString,args:= #[x,y],argTypes:= #[pt,it]},ty,pos,af,g⟩).run P w= .ok (.value v) w':=fun v w' hv=>by
  simp[execOp,resolve,invoke,builtin,hx',hy',hv]
 by_cases h0:s=[]
 ·subst h0
  have h1:=Lib.run_unsafeString_none (P:=P) w pt it ty (bb.map fun g=>⟨g,0,none⟩)
  exact⟨_,w,(),fin _ _ h1,hr.put hd' hr.mem⟩
 ·cases bb with
  |none=>exact absurd (hb rfl) h0
  |some gg=>
   obtain⟨a0,a3,a4⟩:=hr.mem.tab hk (bufT_ok (some gg) s e n) (p:=(gg,NB s)) (by simp[bufT])
   obtain⟨b0,_,_⟩:=hr.mem.tab hk (bufT_ok (some gg) s e n) (p:=(gg,tyRow e n)) (by simp[bufT])
   obtain⟨cur,e',fr,a1,a2⟩:=a0.resolve_right fun⟨_,_,_,e⟩=>by have:=noTy_NB s;rw[show NB s=itRow _ _ from e] at this;cases this
   obtain⟨cur',e'',fr',b1,b2⟩:=b0.resolve_right fun⟨_,_,_,e⟩=>by
    have:tyRow _ _=itRow _ _:=e
    simp[tyRow,itRow] at this
   dsimp only at a1 a2 b1 b2 a3 a4
   have h1:cur.toList.take (NB s).length=NB s:=a2.elim (fun q=>q.2.eq fun v hv=>by
 unfold NB at hv
 obtain⟨c,_,rfl⟩:=List.mem_map.1 hv
 rfl) fun e=>by
    have:=noTy_NB s
    rw[e] at this;cases this
   rw[a1] at b1
   cases b1
   have h2:e'=e∧cur.size=n:=by
    rcases b2 with b2|b2
    ·exact absurd b2.1 (by intro h;cases h)
    ·simp[tyRow] at b2
     exact⟨by first|exact b2.1.symm|exact Int.ofNat_inj.1 b2.1.symm|(have:=b2.1;omega),by have:=b2.2;omega⟩
   obtain⟨rfl,rfl⟩:=h2
   have h5:=Lib.run_unsafeString_row (P:=P) w pt it ty e' hp hce gg cur.size (by simp[World.shape?,a1]) s h0 hn (by omega) (fun j c hj=>by
 have hj2:(NB s)[j]? =some (.int .u8 (c.toNat:Nat)):=by
  unfold NB;rw[List.getElem?_map,hj];rfl
 rw[←h1,List.getElem?_take] at hj2
 split at hj2
 ·rw[add_lit,Nat.zero_add]
  simp only[World.cell?,a1]
  simpa using hj2
 ·cases hj2)
   obtain⟨h6,_⟩:=hr.mem.freezeN (a3 rfl) a4 a1 s.length
   exact⟨_,_,(),fin _ _ h5,hr.put hd' h6⟩
end
theorem Weak.nilB(L:List Blk){e:Nat}(he:e<mapMark):Weak L (L++[⟨none,e,[],0,true⟩]):=fun B w h=>
 h.ext (new:=[⟨none,e,[],0,true⟩]) (Below.refl _ _) (fun k b hk=>by
 cases k with
 |zero=>simp at hk;subst hk;exact⟨fun g hg=>(by cases hg),fun _=>⟨rfl,rfl⟩⟩
 |succ k=>simp at hk) (fun i j g bi bj hij hi hj hg=>by
 cases i with
 |zero=>simp at hi;subst hi;cases hg
 |succ i=>simp at hi) (fun b hb hn=>by rw[List.mem_singleton.1 hb];exact he)
theorem Run.soundL{P:Program}{bl:List Nat}{ops:Array Oper}{Q:Exit→Act→World→Prop}{o:Oper}:∀{l:List Oper} {s:St} {K:St→Prop} {B:Bs} {a:Act} {w:World},
 Run P bl ops l s K→Rel B s a w→(∀s' a' w',K s'→Rel B s' a' w'→wpList P ops Q [o] a' w')→wpList P ops Q (l++[o]) a w
 |[],s,K,B,a,w,hr,h,hK=>hK _ _ _ hr h
 |q::l,s,K,B,a,w,hr,h,hK=>by
  have:=Step.sound (K':=wpList P ops Q (l++[o])) (Q:=Q) hr h (fun s' a' w' h1 h2=>Run.soundL h1 h2 hK)
  rw[List.cons_append]
  unfold wpList
  split
  ·rename_i hw;rw[if_pos hw] at this;exact .inl this
  ·rename_i hw;rw[if_neg hw] at this;exact this
abbrev Bs.put(B:Bs)(f:Nat)(vs:List Value):Bs:=⟨B.w,B.S,{target:= .fn (.func f) #[],args:=vs.toArray}::B.D⟩
theorem LRel.putD{B:Bs}{w:World}{L:List Blk}(D:List Deferred)(h:LRel B L w):LRel ⟨B.w,B.S,D⟩ L w:=⟨⟨h.bel.os,h.bel.tape,h.bel.output,h.bel.size,h.bel.block⟩,h.blk,h.apart,h.grp⟩
theorem at_regionDef{P:Program}{B:Bs}{s:St}{Q:Exit→Act→World→Prop}{id:Nat}{l l0:List Oper}{f:Nat}{args:List Operand}{ts:Array TypeId}{ty:TypeId}{pos:String}{af:Array Edge}(vs:List Value)
 (hl:l0=l++[⟨none,.defer {callee:= .value (.func f),args:=args.toArray,argTypes:=ts},ty,pos,af,none⟩])
 (h:Run P [1000000] l0.toArray l s fun s'=>args.map (ev s'.t)=vs.map some∧At (B.put f vs) s' (Q .normal)):At B s ((Code.region id l0.toArray false).wp P Q):=fun a w hr=>by
 refine wp_region_lit ?_
 have:=Run.soundL (P:=P) (Q:=Q) (ops:=l0.toArray) (o:=⟨none,.defer {callee:= .value (.func f),args:=args.toArray,argTypes:=ts},ty,pos,af,none⟩) h hr (fun s' a' w' ⟨h1,h2⟩ hr'=>by
 unfold wpList
 have hw:Region.wanted (⟨none,.defer {callee:= .value (.func f),args:=args.toArray,argTypes:=ts},ty,pos,af,none⟩:Oper) (yielded l0.toArray a'.tmps)=true:=rfl
 rw[if_pos hw]
 refine .inl ?_
 have he:(execOp a'.eval ⟨none,.defer {callee:= .value (.func f),args:=args.toArray,argTypes:=ts},ty,pos,af,none⟩).run P w'= .ok (.defer {target:= .fn (.func f) #[],args:=vs.toArray}) w':=by
  have hf':a'.eval (.func f)= .func (.func f) #[] #[]:=rfl
  have hv:args.toArray.map a'.eval=vs.toArray:=by rw[List.map_toArray,evs_spec hr' h1]
  simp[execOp,resolve,hf',hv,Deferred.ofValue]
 unfold Oper.wp
 rw[he]
 show wpList P l0.toArray Q [] ({a' with defers:=_::a'.defers}.put none undef) w'
 unfold wpList
 exact h2 _ _ ⟨by show _::a'.defers=_::B.D;rw[hr'.df],hr'.size,hr'.tmp,hr'.mem.putD _⟩)
 rw[←hl] at this
 exact this
structure Bd where
 b:Option Nat
 n:Nat
 cap:Nat
 s:Bs8
def Bd.ok(d:Bd):Prop:=d.s.length≤d.cap∧d.cap≤d.n∧(d.b=none↔d.cap=0)
def bd0:Bd:=⟨none,0,0,[]⟩
theorem bd0_ok:bd0.ok:=⟨Nat.le_refl _,Nat.le_refl _,by simp[bd0]⟩
def selfP(g:Nat)(a:Bool):Option Addr:=if a then some ⟨g,0,none⟩ else none
abbrev BB(g:Nat)(a:Bool)(d:Bd):Blk:=⟨some g,127,[.pointer (selfP g a),slv d.b 0 d.s.length d.cap],2,true⟩
abbrev BF(d:Bd):Blk:=⟨d.b,5,NB d.s,d.n,true⟩
noncomputable abbrev BZ(d:Bd):Blk:=gB (bufT d.b d.s 5 d.n) true
theorem Bd.none_nil{d:Bd}(h:d.ok)(hb:d.b=none):d.s=[]:=by
 have h1:=h.2.2.1 hb
 have h2:=h.1
 exact List.eq_nil_of_length_eq_zero (by omega)
abbrev BdX(s:Bs8):={d:Bd // d.ok∧d.s=s}
abbrev BBr(g:Nat)(a:Bool)(d:Bd):Blk:=⟨some g,127,[.pointer (selfP g a),slv d.b 0 d.s.length d.cap],2,false⟩
abbrev OB(m:Nat):={r:OR m 1 // r.b=none↔r.cap=0}
def OB.bd{m:Nat}(r:OB m)(s:Bs8):Bd:=⟨r.1.b,r.1.n,r.1.cap,s⟩
theorem OB.ok{m:Nat}(r:OB m){s:Bs8}(h:s.length=m):(r.bd s).ok:=⟨by show s.length≤r.1.cap;rw[h];exact r.1.h,by have:=r.1.hn;show r.1.cap≤r.1.n;omega,r.2⟩
theorem Bd.pos{d:Bd}(h:d.ok):d.b≠none→d.n≠0:=fun hb=>by
 have h1:=h.2.1
 have h2:d.cap≠0:=fun e=>hb (h.2.2.2 e)
 omega
theorem wb_fin{B:Bs}{w:World}{g:Nat}{d:Bd}{c:UInt8}(r:AR (d.s.length+1) 1){new:List Blk}(v:Value)
 (h:LRel B ([⟨some g,127,[.pointer (some ⟨g,0,none⟩),slv (some r.g) 0 (d.s.length+1) r.cap],2,true⟩,⟨some r.g,5,NB d.s++[.int .u8 (c.toNat:Nat)],r.n,true⟩]++new) w):
 ∃x:BdX (d.s++[c]),Ending.returned v=Ending.returned v∧LRel B [BB g true x.1,BF x.1] w:=by
 have h1:=LRel.take h
 have hcap:=r.h
 have hn:=r.hn
 refine⟨⟨⟨some r.g,r.n,r.cap,d.s++[c]⟩,⟨?_,?_,?_⟩,rfl⟩,rfl,?_⟩
 ·show(d.s++[c]).length≤r.cap
  simpa using hcap
 ·show r.cap≤r.n
  omega
 ·show some r.g=none↔r.cap=0
  simp;omega
 ·have e1:NB (d.s++[c])=NB d.s++[.int .u8 (c.toNat:Nat)]:=NB_append _ _
  have e2:(d.s++[c]).length=d.s.length+1:=by simp
  show LRel B [⟨some g,127,[.pointer (some ⟨g,0,none⟩),slv (some r.g) 0 (d.s++[c]).length r.cap],2,true⟩,⟨some r.g,5,NB (d.s++[c]),r.n,true⟩] w
  rw[e1,e2]
  exact h1
theorem ws_fin{B:Bs}{w:World}{g:Nat}{d:Bd}{l:Bs8}(r:OR (d.s.length+l.length) 1)(hr:r.b=none↔r.cap=0)(v:Value)
 (h:LRel B [⟨some g,127,[.pointer (some ⟨g,0,none⟩),slv r.b 0 (d.s.length+l.length) r.cap],2,true⟩,⟨r.b,5,NB d.s++NB l,r.n,true⟩] w):
 ∃x:BdX (d.s++l),Ending.returned v=Ending.returned v∧LRel B [BB g true x.1,BF x.1] w:=by
 have hcap:=r.h
 have hn:=r.hn
 refine⟨⟨⟨r.b,r.n,r.cap,d.s++l⟩,⟨?_,?_,hr⟩,rfl⟩,rfl,?_⟩
 ·show(d.s++l).length≤r.cap
  simpa using hcap
 ·show r.cap≤r.n
  omega
 ·have e2:(d.s++l).length=d.s.length+l.length:=by simp
  show LRel B [⟨some g,127,[.pointer (some ⟨g,0,none⟩),slv r.b 0 (d.s++l).length r.cap],2,true⟩,⟨r.b,5,NB (d.s++l),r.n,true⟩] w
  rw[NB_append,e2]
  exact h
end Go.Via
namespace Go.Proofs.YtfijbadahkmhbaaGreatDoor
open Go Go.RowKit Go.Via
theorem c_strings_IndexByte(l:Bs8)(c:UInt8):PCall Tryz.prog 127 #[.string (strU l),.int .u8 (c.toNat:Nat)] (.int .i64 (Lib.indexByte l c)):=by
 refine⟨by kernel_rfl,fun w=>?_⟩;refine cB2 8 Tryz.func127 (LRel.nil w) ?_;refine A9 ?_;refine Pc (c_lite_IndexByte _ _) ?_;refine A4 ?_;refine E1 fun w hL=>⟨?_,hL.below⟩;exact rfl
theorem c_b_copyCheck(g:Nat)(a:Bool)(d:Bd):ECall Tryz.prog 122 [BB g a d] [.pointer (some ⟨g,0,none⟩)] Unit (fun _=> .tuple #[]) (fun _=>[BB g true d]):=by
 refine⟨by kernel_rfl,fun B w hD hL0=>?_⟩;refine cB1 20 Tryz.func122 hL0 ?_;refine A6 ?_;refine r_ptrNil (te:=127) (v:=selfP g a) (r:= !a) (by kernel_rfl) rfl rfl rfl rfl (by cases a<;>rfl) ?_;refine A2 ?_;refine Cd ?_ ?_<;>intro hb0
 ·have ha:a=false:=by simpa using hb0
  subst ha;refine A3 ?_;refine r_toUnsafe (te:=127) 0 (by kernel_rfl) (by kernel_rfl) (by kernel_rfl) rfl rfl rfl rfl rfl rfl rfl ?_;refine r_noEscape Tryz.func152 (by kernel_rfl) (by kernel_rfl) (by kernel_rfl) (by kernel_rfl) rfl rfl rfl ?_;refine r_fromUnsafe (u:=127) 0 (by kernel_rfl) (by kernel_rfl) (by kernel_rfl) rfl rfl rfl rfl rfl rfl (by kernel_rfl) rfl ?_;refine A2 ?_;refine So 0 0 [⟨some g,127,_,2,true⟩] [_,_] ?_;refine A1 ?_
  refine at_end0n rfl (fun w hL=>⟨(),rfl,hL⟩)
 ·have ha:a=true:=by simpa using hb0
  subst ha;refine A7 ?_;refine r_ptrSame (te:=127) (by kernel_rfl) (by kernel_rfl) rfl rfl rfl rfl ?_;refine A4 ?_
  refine at_end0n rfl (fun w hL=>⟨(),rfl,hL⟩)
theorem c_b_WriteByte(g:Nat)(a:Bool)(d:Bd)(c:UInt8)(hd:d.ok)(hm:d.s.length+1≤17179869184):ECall Tryz.prog 124 [BB g a d,BF d] [.pointer (some ⟨g,0,none⟩),.int .u8 (c.toNat:Nat)] (BdX (d.s++[c])) (fun _=> .nilIface) (fun x=>[BB g true x.1,BF x.1]):=by
 refine⟨by kernel_rfl,fun B w hD hL0=>?_⟩;obtain⟨hd1,hd2,hd3⟩:=hd;refine cB2 17 Tryz.func124 hL0 ?_;refine A6 ?_;refine at_regionM ?_;refine A1 ?_;refine Gm 1 [0] [] (fun _=>[BB g true d,BF d]) (c_b_copyCheck g a d) (fun _=>?_);refine A10 ?_;refine r_buildSlice [(0,_)] (fun g=>[_,_,⟨some g,5,_,1,true⟩]) rfl rfl rfl (bs125_1) rfl (fun _=>rfl) (fun g0=>?_);refine q_append (b2o:=g0) (b:=BF d) (len:=d.s.length) (n2:=1) 1 2 (fun r=>[BB g true d,⟨some r.g,5,NB d.s++[.int .u8 (c.toNat:Nat)],r.n,true⟩,_]) u125 el5 rfl rfl rfl rfl rfl rfl rfl rfl rfl rfl rfl rfl (by rw[NB_length,Nat.mul_one]) hd1 (by rw[Nat.mul_one];exact hd2) rfl (fun v hv=>by rw[List.mem_singleton.1 hv];rfl) hm (fun r=>rfl) (fun r=>?_);refine A2 ?_;refine So 0 1 [⟨some g,127,_,2,true⟩,_,_] [_,_] ?_;refine A8 ?_;refine at_end1 rfl (res_tmp rfl) (fun w hL=>wb_fin r _ hL)
theorem c_b_WriteString(g:Nat)(a:Bool)(d:Bd)(l:Bs8)(hd:d.ok)(hm:d.s.length+l.length≤17179869184):ECall Tryz.prog 94 [BB g a d,BF d] [.pointer (some ⟨g,0,none⟩),.string (strU l)] (BdX (d.s++l)) (fun _=> .tuple #[.int .i64 (l.length:Nat),.nilIface]) (fun x=>[BB g true x.1,BF x.1]):=by
 refine⟨by kernel_rfl,fun B w hD hL0=>?_⟩;obtain⟨hd1,hd2,hd3⟩:=hd;refine cB2 19 Tryz.func94 hL0 ?_;refine A7 ?_;refine at_regionM ?_;refine A1 ?_;refine Gm 1 [0] [] (fun _=>[BB g true d,BF d]) (c_b_copyCheck g a d) (fun _=>?_);refine A10 ?_;refine r_appendStr (b:=BF d) (len:=d.s.length) 1 (fun r=>[BB g true d,⟨r.b,5,NB d.s++NB l,r.n,true⟩]) u125 u9 el5 rfl rfl rfl rfl rfl rfl rfl (NB_length _) hd1 hd2 hd3 hm (fun r=>rfl) (fun r hr=>?_);refine A2 ?_;refine So 0 1 [⟨some g,127,_,2,true⟩,_] [_,_] ?_;refine A6 ?_;refine r_know 18 (.int .i64 (l.length:Nat)) rfl (by rw[strU_size]) ?_;refine A5 ?_;refine at_end2 rfl (res_tmp rfl) (res_tmp rfl) (fun w hL=>ws_fin r hr _ hL)
theorem c_b_Len(g:Nat)(a:Bool)(d:Bd):SCall Tryz.prog 97 [BBr g a d] [.pointer (some ⟨g,0,none⟩)] Unit (fun _=> .int .i64 (d.s.length:Nat)) (fun _=>[]):=by
 refine⟨by kernel_rfl,fun w hL0=>?_⟩;refine cB1 8 Tryz.func97 hL0 ?_;refine A16 ?_;refine E1 fun w hL=>⟨(),rfl,hL.pk []⟩
theorem c_b_String(g:Nat)(a:Bool)(d:Bd)(hd:d.ok)(hm:d.s.length≤17179869184):ECall Tryz.prog 95 [BB g a d,BF d] [.pointer (some ⟨g,0,none⟩)] Unit (fun _=> .string (strU d.s)) (fun x=>[BB g a d,BZ d]):=by
 refine⟨by kernel_rfl,fun B w hD hL0=>?_⟩;obtain⟨hd1,hd2,hd3⟩:=hd;refine cB1 14 Tryz.func95 hL0 ?_;refine A6 ?_;refine at_drawnI [] mixed (by kernel_rfl) (by kernel_rfl) ?_;refine A4 ?_;refine r_sliceData hd3 rfl rfl rfl ?_;refine A5 ?_;refine r_unsafeString (b:=BF d) (s:=d.s) 1 (by kernel_rfl) (by kernel_rfl) (by omega) rfl rfl rfl rfl rfl rfl (by show d.s.length≤d.n;omega) (Bd.pos ⟨hd1,hd2,hd3⟩) rfl rfl ?_;refine A4 ?_;refine at_end1 rfl (res_tmp rfl) (fun w hL=>⟨(),rfl,hL⟩)
theorem c_b_String2(g:Nat)(a:Bool)(d:Bd)(hd:d.ok)(hm:d.s.length≤17179869184):ECall Tryz.prog 95 [BB g a d,BZ d] [.pointer (some ⟨g,0,none⟩)] Unit (fun _=> .string (strU d.s)) (fun x=>[BB g a d,BZ d]):=by
 refine⟨by kernel_rfl,fun B w hD hL0=>?_⟩;obtain⟨hd1,hd2,hd3⟩:=hd;refine cB1 14 Tryz.func95 hL0 ?_;refine A6 ?_;refine at_drawnI [] mixed (by kernel_rfl) (by kernel_rfl) ?_;refine A4 ?_;refine r_sliceData hd3 rfl rfl rfl ?_;refine A5 ?_;refine r_unsafeString2 (bb:=d.b) (e:=5) (n:=d.n) (s:=d.s) 1 (by kernel_rfl) (by kernel_rfl) (by omega) rfl rfl rfl (by omega) (Bd.none_nil ⟨hd1,hd2,hd3⟩) rfl rfl ?_;refine A4 ?_;refine at_end1 rfl (res_tmp rfl) (fun w hL=>⟨(),rfl,hL⟩)
end Go.Proofs.YtfijbadahkmhbaaGreatDoor
namespace Go.Via
open Go
theorem quo_end{s:Bs8}{i:Nat}(h:s.length≤i):quo (s.drop i)=none:=by rw[List.drop_eq_nil_of_le h];rfl
theorem drop_at{s:Bs8}{i:Nat}{c:UInt8}(h:s[i]? =some c):s.drop i=c::s.drop (i+1):=by
 obtain⟨hl,rfl⟩:=List.getElem?_eq_some_iff.1 h
 exact List.drop_eq_getElem_cons hl
theorem quo_stop{s:Bs8}{i:Nat}{c:UInt8}(h:s[i]? =some c)(hc:c=34)(h2:∀d,s[i+1]? =some d→d≠34):quo (s.drop i)=some ([],0):=by
 subst hc
 rw[drop_at h]
 cases hq:s.drop (i+1) with
 |nil=>rfl
 |cons d l=>
  have h3:s[i+1]? =some d:=by
   have:=congrArg (fun l:Bs8=>l[0]?) hq
   simpa using this
  rw[quo,if_pos rfl,if_neg (h2 d h3)]
theorem quo_two{s:Bs8}{i:Nat}{c:UInt8}(h:s[i]? =some c)(hc:c=34){d:UInt8}(h2:s[i+1]? =some d)(hd:d=34):quo (s.drop i)=(quo (s.drop (i+2))).map fun x=>(34::x.1,x.2+2):=by
 subst hc;subst hd
 rw[drop_at h,drop_at h2,quo,if_pos rfl,if_pos rfl]
theorem quo_one{s:Bs8}{i:Nat}{c:UInt8}(h:s[i]? =some c)(hc:c≠34):quo (s.drop i)=(quo (s.drop (i+1))).map fun x=>(c::x.1,x.2+1):=by
 rw[drop_at h]
 cases hq:s.drop (i+1) with
 |nil=>simp[quo,hc]
 |cons d l=>rw[quo,if_neg hc]
def QI(s:Bs8)(a i:Nat)(acc:Bs8):Prop:=quo (s.drop a)=(quo (s.drop i)).map fun x=>(acc++x.1,x.2+(i-a))
theorem QI.zero(s:Bs8)(a:Nat):QI s a a []:=by
 unfold QI
 cases quo (s.drop a) with
 |none=>rfl
 |some x=>simp
theorem QI.one{s:Bs8}{a i:Nat}{acc:Bs8}{c:UInt8}(h:QI s a i acc)(ha:a≤i)(hx:s[i]? =some c)(hc:c≠34):QI s a (i+1) (acc++[c]):=by
 unfold QI at h ⊢
 rw[h,quo_one hx hc,Option.map_map]
 congr 1
 funext x
 simp only[Function.comp_apply,List.append_assoc,List.singleton_append,Prod.mk.injEq,true_and]
 omega
theorem QI.two{s:Bs8}{a i:Nat}{acc:Bs8}{c d:UInt8}(h:QI s a i acc)(ha:a≤i)(hx:s[i]? =some c)(hc:c=34)(hy:s[i+1]? =some d)(hd:d=34):QI s a (i+1+1) (acc++[d]):=by
 unfold QI at h ⊢
 subst hd
 rw[h,quo_two hx hc hy rfl,Option.map_map]
 congr 1
 funext x
 simp only[Function.comp_apply,List.append_assoc,List.singleton_append,Prod.mk.injEq,true_and]
 omega
theorem QI.none{s:Bs8}{a i:Nat}{acc:Bs8}(h:QI s a i acc)(hi:s.length≤i):quo (s.drop a)=none:=by
 unfold QI at h
 rw[h,quo_end hi];rfl
theorem QI.some{s:Bs8}{a i:Nat}{acc:Bs8}{c:UInt8}(h:QI s a i acc)(hx:s[i]? =some c)(hc:c=34)(h2:∀d,s[i+1]? =some d→d≠34):quo (s.drop a)=some (acc,i-a):=by
 unfold QI at h
 rw[h,quo_stop hx hc h2]
 simp
theorem wordL_a(c:UInt8):wordL ([97]++[c])=wch c:=by
 show(isLet 97&&(wch c&&true))=wch c
 rw[Bool.and_true];rfl
theorem wch_let{c:UInt8}(h:isLet c=true):wch c=true:=by unfold wch;rw[h];rfl
end Go.Via
namespace Go.Via
open Go Go.RowKit
theorem strU_append(a b:Bs8):strU a++strU b=strU (a++b):=by
 apply ByteArray.ext
 simp[strU,ByteArray.data_append]
theorem strU_extract(s:Bs8)(i j:Nat):(strU s).extract i j=strU ((s.drop i).take (j-i)):=ByteArray.extract_mk s i j
section
variable{P:Program}{bl:List Nat}{ops:Array Oper}{K:St→Prop}{rest:List Oper}{nt:Nat}{t:List (Nat×Value)}{L:List Blk}{d:Nat}{ty:TypeId}{pos:String}{af:Array Edge}{g:Option (Nat×Bool)}{x y z:Operand}
theorem r_addS{T U:Nat}{a b:ByteArray}{p q r:Bs8}(hd:Nat.blt d nt=true)(hg:wantedS ops ⟨some d,.binOp .add T x y U,ty,pos,af,g⟩ t=some true)(hx:ev t x=some (.string a))(hy:ev t y=some (.string b))(ha:a=strU p)(hb:b=strU q)(hr:p++q=r)(hlen:p.length+q.length≤17179869184)
 (h:Run P bl ops rest ⟨nt,(d,.string (strU r))::t,L⟩ K):Run P bl ops (⟨some d,.binOp .add T x y U,ty,pos,af,g⟩::rest) ⟨nt,t,L⟩ K:=by
 subst ha;subst hb;subst hr
 exact run_q hd hg rfl (fun B a w hrel=>by
 have h1:=hrel.ev hx
 have h2:=hrel.ev hy
 have h3:=run_string_add_sum (P:=P) w (strU p) (strU q) (by rw[strU_size,strU_size];omega)
 rw[strU_append] at h3
 simp[execOp,h1,h2,eqGuard,binOp,h3]) h
theorem r_sliceS{T:Nat}{s r:Bs8}{k k':IntKind}{i j:Nat}(hT:P.underlying T=some .string)(hd:Nat.blt d nt=true)(hg:wantedS ops ⟨some d,.slice T x (some y) (some z) none,ty,pos,af,g⟩ t=some true)(hx:ev t x=some (.string (strU s)))(hy:ev t y=some (.int k (i:Nat)))(hz:ev t z=some (.int k' (j:Nat)))(h1:i≤j)(h2:j≤s.length)(hr:(s.drop i).take (j-i)=r)
 (h:Run P bl ops rest ⟨nt,(d,.string (strU r))::t,L⟩ K):Run P bl ops (⟨some d,.slice T x (some y) (some z) none,ty,pos,af,g⟩::rest) ⟨nt,t,L⟩ K:=by
 subst hr
 exact run_q hd hg rfl (fun B a w hrel=>by
 have e1:=hrel.ev hx
 have e2:=hrel.ev hy
 have e3:=hrel.ev hz
 have r1:=run_sliceAt_string (P:=P) w T (.string (strU s)) (some (.int k (i:Nat))) (some (.int k' (j:Nat))) none hT
 rw[run_slice_string (P:=P) w T (strU s) k k' (i:Nat) (j:Nat) hT (by omega) (by omega) (by rw[strU_size];omega),Int.toNat_natCast,Int.toNat_natCast,strU_extract] at r1
 simp[execOp,e1,e2,e3,r1]) h
end
end Go.Via
