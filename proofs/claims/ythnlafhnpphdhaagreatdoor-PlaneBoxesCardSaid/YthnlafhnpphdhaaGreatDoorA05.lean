/-
  Part 5: lemmas, and walks through the functions that the laws of chapter 07 call. Each theorem states its own conditions.
-/
import Derived.Test.YthnlafhnpphdhaaGreatDoorA02
import Derived.Test.YthnlafhnpphdhaaGreatDoorA03
import Derived.Test.YthnlafhnpphdhaaGreatDoorA04
set_option linter.unusedVariables false
set_option linter.unusedVariables false
namespace Go.Proofs.YthnlafhnpphdhaaGreatDoor
open Go Go.RowKit Go.Via
set_option maxRecDepth 20000 in
theorem c_integer_made (b : Bool) (n : Nat) : PCall Tryz.prog 117 #[.bool b, .string (mag n)] (I (if b = true then -(n : Int) else (n : Int))) := by
 refine ⟨by kernel_rfl, fun w => ?_⟩
 refine calls_at (args := [.bool b, .string (mag n)]) Tryz.func117 rfl (Nat.le_of_ble_eq_true rfl) (LRel.nil w) ?_
 show At w ⟨12, [(0, .bool b), (1, .string (mag n))], []⟩ _
 refine at_seq ?_
 refine at_region ?_
 refine r_alloc [_, _] 2 (fun g => [⟨some g, 23, _, 2, true⟩]) rfl rfl z23 rfl rfl (fun _ => rfl) (fun g0 => ?_)
 refine run_nil ?_
 refine at_tn ?_
 refine at_seq ?_
 refine at_region ?_
 refine r_move rfl rfl rfl ?_
 refine r_move rfl rfl rfl ?_
 refine r_split 6 rfl (fun hb0 => ?_) (fun hb0 => ?_)
 ·
  refine r_move rfl rfl rfl ?_
  refine r_neqStr rfl rfl rfl rfl ?_
  refine r_pickT rfl rfl rfl rfl ?_
  refine r_move rfl rfl rfl ?_
  refine r_build [(0, _), (1, _)] rfl rfl rfl (bd23_2) ?_
  refine r_store rfl 0 0 [⟨some g0, 23, _, 2, true⟩] [_, _] rfl rfl rfl rfl ti23 rfl rfl rfl rfl rfl ?_
  refine run_nil ?_
  refine at_tn ?_
  refine at_ret ?_
  refine at_end1 rfl (res_cell 0 rfl rfl ti23 (vs := [_, _]) rfl rfl (Nat.le_of_ble_eq_true rfl) rfl) (fun w hL => ⟨?_, hL.below⟩)
  subst hb0; exact congrArg Ending.returned (made_T n)
 ·
  refine r_no rfl rfl rfl ?_
  refine r_no rfl rfl rfl ?_
  refine r_pickF rfl rfl rfl rfl ?_
  refine r_move rfl rfl rfl ?_
  refine r_build [(0, _), (1, _)] rfl rfl rfl (bd23_2) ?_
  refine r_store rfl 0 0 [⟨some g0, 23, _, 2, true⟩] [_, _] rfl rfl rfl rfl ti23 rfl rfl rfl rfl rfl ?_
  refine run_nil ?_
  refine at_tn ?_
  refine at_ret ?_
  refine at_end1 rfl (res_cell 0 rfl rfl ti23 (vs := [_, _]) rfl rfl (Nat.le_of_ble_eq_true rfl) rfl) (fun w hL => ⟨?_, hL.below⟩)
  subst hb0; exact congrArg Ending.returned (made_F n)
set_option maxRecDepth 20000 in
theorem c_integer_Sign (z : Int) : PCall Tryz.prog 108 #[I z] (.int .i64 z.sign) := by
 refine ⟨by kernel_rfl, fun w => ?_⟩
 refine calls_at (args := [I z]) Tryz.func108 rfl (Nat.le_of_ble_eq_true rfl) (LRel.nil w) ?_
 show At w ⟨10, [(0, I z)], []⟩ _
 refine at_seq ?_
 refine at_region ?_
 refine r_box [_, _] 2 (fun g => [⟨some g, 23, _, 2, true⟩]) rfl rfl rfl rfl rfl (fun _ => rfl) (fun g0 => ?_)
 refine r_assign rfl rfl rfl ?_
 refine run_nil ?_
 refine at_tn ?_
 refine at_seq ?_
 refine at_block ?_
 refine at_seq ?_
 refine at_region ?_
 refine r_fieldAddr 0 0 1 rfl rfl rfl rfl rfl ti23 rfl rfl ?_
 refine r_load 0 1 [_] rfl rfl rfl rfl ti9 rfl rfl rfl rfl ?_
 refine r_eqlStr rfl rfl rfl rfl ?_
 refine r_assign rfl rfl rfl ?_
 refine run_nil ?_
 refine at_tn ?_
 refine at_cond rfl (fun hb0 => ?_) (fun hb0 => ?_)
 ·
  refine at_seq ?_
  refine at_region ?_
  refine r_assign rfl rfl rfl ?_
  refine run_nil ?_
  refine at_tn ?_
  refine at_ret ?_
  refine at_br ?_
  refine at_tr ?_
  refine at_end1 rfl (res_tmp rfl) (fun w hL => ⟨?_, hL.below⟩)
  exact congrArg (fun z => Ending.returned (.int .i64 z)) (sign_zero z hb0)
 ·
  refine at_seq ?_
  refine at_region ?_
  refine r_fieldAddr 0 0 0 rfl rfl rfl rfl rfl ti23 rfl rfl ?_
  refine r_load 0 0 [_] rfl rfl rfl rfl ti4 rfl rfl rfl rfl ?_
  refine r_assign rfl rfl rfl ?_
  refine run_nil ?_
  refine at_tn ?_
  refine at_cond rfl (fun hb1 => ?_) (fun hb1 => ?_)
  ·
   refine at_seq ?_
   refine at_region ?_
   refine r_assign rfl rfl rfl ?_
   refine run_nil ?_
   refine at_tn ?_
   refine at_ret ?_
   refine at_br ?_
   refine at_tr ?_
   refine at_end1 rfl (res_tmp rfl) (fun w hL => ⟨?_, hL.below⟩)
   exact congrArg (fun z => Ending.returned (.int .i64 z)) (sign_neg z hb1)
  ·
   refine at_skip ?_
   refine at_bn ?_
   refine at_tn ?_
   refine at_seq ?_
   refine at_region ?_
   refine r_assign rfl rfl rfl ?_
   refine run_nil ?_
   refine at_tn ?_
   refine at_ret ?_
   refine at_end1 rfl (res_tmp rfl) (fun w hL => ⟨?_, hL.below⟩)
   exact congrArg (fun z => Ending.returned (.int .i64 z)) (sign_pos z hb0 hb1)
set_option maxRecDepth 20000 in
theorem c_integer_FromInt (z : Int) (h1 : -9223372036854775808 ≤ z) (h2 : z ≤ 9223372036854775807) : PCall Tryz.prog 107 #[.int .i64 z] (I z) := by
 refine ⟨by kernel_rfl, fun w => ?_⟩
 refine calls_at (args := [.int .i64 z]) Tryz.func107 rfl (Nat.le_of_ble_eq_true rfl) (LRel.nil w) ?_
 show At w ⟨15, [(0, .int .i64 z)], []⟩ _
 refine at_seq ?_
 refine at_region ?_
 refine r_alloc [_, _] 2 (fun g => [⟨some g, 23, _, 2, true⟩]) rfl rfl z23 rfl rfl (fun _ => rfl) (fun g0 => ?_)
 refine run_nil ?_
 refine at_tn ?_
 refine at_seq ?_
 refine at_region ?_
 refine r_move rfl rfl rfl ?_
 refine r_conv (r := z % 18446744073709551616) u3 u109 rfl rfl rfl (wu64 z) ?_
 refine r_assign rfl rfl rfl ?_
 refine run_nil ?_
 refine at_tn ?_
 refine at_seq ?_
 refine at_seq ?_
 refine at_region ?_
 refine r_move rfl rfl rfl ?_
 refine r_cmpInt rfl rfl rfl rfl rfl ?_
 refine run_nil ?_
 refine at_tn ?_
 refine at_cond rfl (fun hb0 => ?_) (fun hb0 => ?_)
 ·
  refine at_region ?_
  refine r_move rfl rfl rfl ?_
  refine r_neg (r := ((z.natAbs : Nat) : Int)) rfl rfl rfl ((by rw [wu64]; have := of_decide_eq_true hb0; omega)) ?_
  refine r_assign rfl rfl rfl ?_
  refine run_nil ?_
  refine at_tn ?_
  refine at_seq ?_
  refine at_region ?_
  refine r_move rfl rfl rfl ?_
  refine r_cmpInt rfl rfl rfl rfl rfl ?_
  refine r_move rfl rfl rfl ?_
  refine r_pcall [_] rfl rfl rfl (c_integer_magnitude _ (by omega)) ?_
  refine r_pcall [_, _] rfl rfl rfl (c_integer_made _ _) ?_
  refine r_store rfl 0 0 [⟨some g0, 23, _, 2, true⟩] [_, _] rfl rfl rfl rfl ti23 rfl rfl rfl rfl rfl ?_
  refine run_nil ?_
  refine at_tn ?_
  refine at_ret ?_
  refine at_end1 rfl (res_cell 0 rfl rfl ti23 (vs := [_, _]) rfl rfl (Nat.le_of_ble_eq_true rfl) rfl) (fun w hL => ⟨?_, hL.below⟩)
  exact congrArg (fun z => Ending.returned (I z)) (fromInt_T z hb0)
 ·
  refine at_skip ?_
  refine at_tn ?_
  refine at_seq ?_
  refine at_region ?_
  refine r_move rfl rfl rfl ?_
  refine r_cmpInt rfl rfl rfl rfl rfl ?_
  refine r_move rfl rfl rfl ?_
  refine r_know 12 (.int .u64 (z.natAbs : Nat)) rfl (congrArg (Value.int .u64) (by have := of_decide_eq_false hb0; omega)) ?_
  refine r_pcall [_] rfl rfl rfl (c_integer_magnitude _ (by omega)) ?_
  refine r_pcall [_, _] rfl rfl rfl (c_integer_made _ _) ?_
  refine r_store rfl 0 0 [⟨some g0, 23, _, 2, true⟩] [_, _] rfl rfl rfl rfl ti23 rfl rfl rfl rfl rfl ?_
  refine run_nil ?_
  refine at_tn ?_
  refine at_ret ?_
  refine at_end1 rfl (res_cell 0 rfl rfl ti23 (vs := [_, _]) rfl rfl (Nat.le_of_ble_eq_true rfl) rfl) (fun w hL => ⟨?_, hL.below⟩)
  exact congrArg (fun z => Ending.returned (I z)) (fromInt_F z hb0)
set_option maxRecDepth 20000 in
theorem c_integer_Compare (a b : Int) : PCall Tryz.prog 105 #[I a, I b] (.int .i64 (cmpI a b)) := by
 refine ⟨by kernel_rfl, fun w => ?_⟩
 refine calls_at (args := [I a, I b]) Tryz.func105 rfl (Nat.le_of_ble_eq_true rfl) (LRel.nil w) ?_
 show At w ⟨26, [(0, I a), (1, I b)], []⟩ _
 refine at_seq ?_
 refine at_region ?_
 refine r_box [_, _] 2 (fun g => [⟨some g, 23, _, 2, true⟩]) rfl rfl rfl rfl rfl (fun _ => rfl) (fun g0 => ?_)
 refine r_box [_, _] 2 (fun g => [_, ⟨some g, 23, _, 2, true⟩]) rfl rfl rfl rfl rfl (fun _ => rfl) (fun g1 => ?_)
 refine r_assign rfl rfl rfl ?_
 refine run_nil ?_
 refine at_tn ?_
 refine at_seq ?_
 refine at_seq ?_
 refine at_region ?_
 refine r_fieldAddr 0 0 0 rfl rfl rfl rfl rfl ti23 rfl rfl ?_
 refine r_load 0 0 [_] rfl rfl rfl rfl ti4 rfl rfl rfl rfl ?_
 refine r_fieldAddr 1 0 0 rfl rfl rfl rfl rfl ti23 rfl rfl ?_
 refine r_load 1 0 [_] rfl rfl rfl rfl ti4 rfl rfl rfl rfl ?_
 refine r_neqBool rfl u4 rfl rfl rfl ?_
 refine run_nil ?_
 refine at_tn ?_
 refine at_cond rfl (fun hb0 => ?_) (fun hb0 => ?_)
 ·
  refine at_seq ?_
  refine at_drawn (l' := [⟨_,_,_,_,_,_⟩, ⟨_,_,_,_,_,_⟩, ⟨_,_,_,_,_,_⟩, ⟨_,_,_,_,_,_⟩, ⟨_,_,_,_,_,_⟩, ⟨_,_,_,_,_,_⟩]) [] [0, 2, 1, 3, 4, 5] mixed (by kernel_rfl) rfl (by kernel_rfl) ?_
  refine r_load 0 0 [_, _] rfl rfl rfl rfl ti23 rfl rfl rfl rfl ?_
  refine r_load 1 0 [_, _] rfl rfl rfl rfl ti23 rfl rfl rfl rfl ?_
  refine r_pcall [_] rfl rfl rfl (c_integer_Sign _) ?_
  refine r_pcall [_] rfl rfl rfl (c_integer_Sign _) ?_
  refine r_pcall [_, _] rfl rfl rfl (c_cmp_Compare _ _) ?_
  refine r_assign rfl rfl rfl ?_
  refine run_nil ?_
  refine at_tn ?_
  refine at_ret ?_
  refine at_tr ?_
  refine at_end1 rfl (res_tmp rfl) (fun w hL => ⟨?_, hL.below⟩)
  rw [cmpI_T hb0]
 ·
  refine at_skip ?_
  refine at_tn ?_
  refine at_seq ?_
  refine at_region ?_
  refine r_fieldAddr 0 0 1 rfl rfl rfl rfl rfl ti23 rfl rfl ?_
  refine r_load 0 1 [_] rfl rfl rfl rfl ti9 rfl rfl rfl rfl ?_
  refine r_fieldAddr 1 0 1 rfl rfl rfl rfl rfl ti23 rfl rfl ?_
  refine r_load 1 1 [_] rfl rfl rfl rfl ti9 rfl rfl rfl rfl ?_
  refine r_pcall [_, _] rfl rfl rfl (c_integer_compare _ _) ?_
  refine r_assign rfl rfl rfl ?_
  refine run_nil ?_
  refine at_tn ?_
  refine at_seq ?_
  refine at_seq ?_
  refine at_region ?_
  refine r_fieldAddr 0 0 0 rfl rfl rfl rfl rfl ti23 rfl rfl ?_
  refine r_load 0 0 [_] rfl rfl rfl rfl ti4 rfl rfl rfl rfl ?_
  refine run_nil ?_
  refine at_tn ?_
  refine at_cond rfl (fun hb1 => ?_) (fun hb1 => ?_)
  ·
   refine at_seq ?_
   refine at_region ?_
   refine r_move rfl rfl rfl ?_
   refine r_neg rfl rfl rfl (cmpN_neg _ _) ?_
   refine r_assign rfl rfl rfl ?_
   refine run_nil ?_
   refine at_tn ?_
   refine at_ret ?_
   refine at_tr ?_
   refine at_end1 rfl (res_tmp rfl) (fun w hL => ⟨?_, hL.below⟩)
   rw [cmpI_FT hb0 hb1]
  ·
   refine at_skip ?_
   refine at_tn ?_
   refine at_seq ?_
   refine at_region ?_
   refine r_move rfl rfl rfl ?_
   refine r_assign rfl rfl rfl ?_
   refine run_nil ?_
   refine at_tn ?_
   refine at_ret ?_
   refine at_end1 rfl (res_tmp rfl) (fun w hL => ⟨?_, hL.below⟩)
   rw [cmpI_FF hb0 hb1]
set_option maxRecDepth 20000 in
theorem c_integer_add (m n : Nat) (hm : nb m ≤ 67108864) (hn : nb n ≤ 67108864) : PCall Tryz.prog 118 #[.string (mag m), .string (mag n)] (.string (mag (m + n))) := by
 have hdm := dig_len_le hm
 have hdn := dig_len_le hn
 refine ⟨by kernel_rfl, fun w => ?_⟩
 refine calls_at (args := [.string (mag m), .string (mag n)]) Tryz.func118 rfl (Nat.le_of_ble_eq_true rfl) (LRel.nil w) ?_
 show At w ⟨84, [(0, .string (mag m)), (1, .string (mag n))], []⟩ _
 refine at_seq ?_
 refine at_region ?_
 refine r_assign rfl rfl rfl ?_
 refine run_nil ?_
 refine at_tn ?_
 refine at_seq ?_
 refine at_seq ?_
 refine at_region ?_
 refine r_move rfl rfl rfl ?_
 refine r_move rfl rfl rfl ?_
 refine r_pcall [_, _] rfl rfl rfl (c_integer_words _ _) ?_
 refine r_move rfl rfl rfl ?_
 refine r_extract (vs := [_, _, _]) rfl rfl rfl rfl ?_
 refine r_extract (vs := [_, _, _]) rfl rfl rfl rfl ?_
 refine r_extract (vs := [_, _, _]) rfl rfl rfl rfl ?_
 refine r_assign rfl rfl rfl ?_
 refine r_assign rfl rfl rfl ?_
 refine r_assign rfl rfl rfl ?_
 refine run_nil ?_
 refine at_tn ?_
 refine at_seq ?_
 refine at_region ?_
 refine r_move rfl rfl rfl ?_
 refine run_nil ?_
 refine at_tn ?_
 refine at_cond rfl (fun hb0 => ?_) (fun hb0 => ?_)
 ·
  obtain ⟨hw1, hw2, hw3, hw4⟩ := words_T hb0
  refine at_know 5 (.int .u64 (m : Nat)) rfl (by rw [if_pos hw3]) ?_
  refine at_know 6 (.int .u64 (n : Nat)) rfl (by rw [if_pos hw4]) ?_
  refine at_seq ?_
  refine at_region ?_
  refine r_move rfl rfl rfl ?_
  refine r_move rfl rfl rfl ?_
  refine r_add64 m n rfl rfl rfl rfl rfl ?_
  refine r_move rfl rfl rfl ?_
  refine r_extract (vs := [_, _]) rfl rfl rfl rfl ?_
  refine r_extract (vs := [_, _]) rfl rfl rfl rfl ?_
  refine r_assign rfl rfl rfl ?_
  refine r_assign rfl rfl rfl ?_
  refine run_nil ?_
  refine at_tn ?_
  refine at_seq ?_
  refine at_region ?_
  refine r_move rfl rfl rfl ?_
  refine r_cmpInt rfl rfl rfl rfl rfl ?_
  refine run_nil ?_
  refine at_tn ?_
  refine at_cond rfl (fun hb1 => ?_) (fun hb1 => ?_)
  ·
   have hs : m + n < 18446744073709551616 := by have := eq_of_beq hb1; omega
   refine at_seq ?_
   refine at_region ?_
   refine r_move rfl rfl rfl ?_
   refine r_pcall [_] rfl rfl rfl (c_integer_magnitude _ (by omega)) ?_
   refine r_assign rfl rfl rfl ?_
   refine run_nil ?_
   refine at_tn ?_
   refine at_ret ?_
   refine at_tr ?_
   refine at_end1 rfl (res_tmp rfl) (fun w hL => ⟨?_, hL.below⟩)
   rw [Nat.mod_eq_of_lt hs]
  ·
   refine at_skip ?_
   refine at_tn ?_
   refine at_seq ?_
   refine at_region ?_
   refine r_move rfl rfl rfl ?_
   refine r_scall [_] [] rfl rfl rfl (c_integer_digits m (by omega)) trivial rfl (.inr fun x b hb => by rw [List.mem_singleton.1 hb]) (fun g0 => ?_)
   refine r_move rfl rfl rfl ?_
   refine r_scall [_] [] rfl rfl rfl (c_integer_digits n (by omega)) trivial rfl (.inr fun x b hb => by rw [List.mem_singleton.1 hb]) (fun g1 => ?_)
   refine r_assign rfl rfl rfl ?_
   refine r_assign rfl rfl rfl ?_
   refine run_nil ?_
   refine at_tn ?_
   refine at_seq ?_
   refine at_seq ?_
   refine at_region ?_
   refine r_move rfl rfl rfl ?_
   refine r_lenS u131 rfl rfl rfl ?_
   refine r_move rfl rfl rfl ?_
   refine r_lenS u131 rfl rfl rfl ?_
   refine r_cmpInt rfl rfl rfl rfl rfl ?_
   refine run_nil ?_
   refine at_tn ?_
   refine at_cond rfl (fun hb2 => ?_) (fun hb2 => ?_)
   ·
    have hle : (digs B32 m).length ≤ (digs B32 n).length := (by have := of_decide_eq_true hb2; omega)
    refine at_region ?_
    refine r_move rfl rfl rfl ?_
    refine r_move rfl rfl rfl ?_
    refine r_assign rfl rfl rfl ?_
    refine r_assign rfl rfl rfl ?_
    refine run_nil ?_
    refine at_tn ?_
    refine at_seq ?_
    refine at_region ?_
    refine r_move rfl rfl rfl ?_
    refine r_lenS u131 rfl rfl rfl ?_
    refine r_arith (r := (((digs B32 n).length + 1 : Nat) : Int)) rfl rfl rfl rfl (congrArg some (wi (by omega) (by omega) (by omega))) ?_
    refine q_makeSlice (c := (digs B32 n).length + 1) (NV .u32 (List.replicate ((digs B32 n).length + 1) 0)) (fun g => [_, _, ⟨some g, 133, _, _, true⟩]) u131 el133 rfl rfl rfl rfl rfl rfl (by omega) (by rw [NV_replicate]) (fun _ => rfl) (fun g2 => ?_)
    refine r_assign rfl rfl rfl ?_
    refine run_nil ?_
    refine at_tn ?_
    refine at_seq ?_
    refine at_region ?_
    refine r_move rfl rfl rfl ?_
    refine r_move rfl rfl rfl ?_
    refine q_copy 2 1 [_, _, ⟨some g2, 133, _, _, true⟩] (NV .u32 (row ((digs B32 n).length + 1) (addT n m 0))) u131 el133 rfl rfl rfl rfl rfl rfl rfl rfl (NV_length _ _) (by omega) (by rw [NV_length, List.length_replicate]; omega) (NV_one _ _) (addT_zero _ _) rfl ?_
    refine run_nil ?_
    refine at_tn ?_
    refine at_seq ?_
    refine at_region ?_
    refine r_assign rfl rfl rfl ?_
    refine run_nil ?_
    refine at_tn ?_
    refine at_seq ?_
    refine at_seq ?_
    refine at_region ?_
    refine r_move rfl rfl rfl ?_
    refine r_lenS u131 rfl rfl rfl ?_
    refine r_move rfl rfl rfl ?_
    refine run_nil ?_
    refine at_tn ?_
    refine at_block ?_
    refine enterL (nt := 84) (ι := {i : Nat // i ≤ (digs B32 n).length + 1}) (fun ⟨i, hi⟩ => [(10, slv (some g1) 0 (digs B32 n).length (digs B32 n).length), (11, slv (some g0) 0 (digs B32 m).length (digs B32 m).length), (12, slv (some g2) 0 ((digs B32 n).length + 1) ((digs B32 n).length + 1)), (13, .int .u64 (addC n m i : Nat)), (52, .int .i64 ((digs B32 n).length + 1 : Nat)), (53, .int .i64 (i : Nat))]) (fun ⟨i, hi⟩ => [⟨some g0, 133, NV .u32 (digs B32 m), (digs B32 m).length, true⟩, ⟨some g1, 133, NV .u32 (digs B32 n), (digs B32 n).length, true⟩, ⟨some g2, 133, NV .u32 (row ((digs B32 n).length + 1) (addT n m i)), (digs B32 n).length + 1, true⟩]) (fun ⟨i, hi⟩ => (digs B32 n).length + 1 - i) ⟨0, Nat.zero_le _⟩ ⟨rfl, rfl, rfl, (look_val rfl (by rw [addC_zero]; rfl)), rfl, rfl, trivial⟩ (Weak.refl _) ?_
    rintro ⟨i, hi⟩
    show At _ ⟨84, [(10, slv (some g1) 0 (digs B32 n).length (digs B32 n).length), (11, slv (some g0) 0 (digs B32 m).length (digs B32 m).length), (12, slv (some g2) 0 ((digs B32 n).length + 1) ((digs B32 n).length + 1)), (13, .int .u64 (addC n m i : Nat)), (52, .int .i64 ((digs B32 n).length + 1 : Nat)), (53, .int .i64 (i : Nat))], [⟨some g0, 133, NV .u32 (digs B32 m), (digs B32 m).length, true⟩, ⟨some g1, 133, NV .u32 (digs B32 n), (digs B32 n).length, true⟩, ⟨some g2, 133, NV .u32 (row ((digs B32 n).length + 1) (addT n m i)), (digs B32 n).length + 1, true⟩]⟩ _
    refine at_seq ?_
    refine at_region ?_
    refine r_cmpInt rfl rfl rfl rfl rfl ?_
    refine run_nil ?_
    refine at_tn ?_
    refine at_seq ?_
    refine at_cond rfl (fun hb4 => ?_) (fun hb4 => ?_)
    ·
     have hlt : i < (digs B32 n).length + 1 := (by have := of_decide_eq_true hb4; omega)
     have hc1 := addC_le n m i
     have hx1 := B32_mod (n / B32 ^ i)
     have hy1 := B32_mod (m / B32 ^ i)
     have hs1 := addS_lt n m i
     refine at_skip ?_
     refine at_tn ?_
     refine at_seq ?_
     refine at_block ?_
     refine at_seq ?_
     refine at_region ?_
     refine r_move rfl rfl rfl ?_
     refine r_assign rfl rfl rfl ?_
     refine run_nil ?_
     refine at_tn ?_
     refine at_seq ?_
     refine at_region ?_
     refine r_move rfl rfl rfl ?_
     refine r_move rfl rfl rfl ?_
     refine r_move rfl rfl rfl ?_
     refine r_indexAddr 2 (i) u131 ti133 rfl rfl rfl rfl rfl (by omega) (by omega) (NV_ne (by rw [row_length]; omega)) (by show 0 + Int.toNat _ * 1 = _; omega) ?_
     refine r_load1 2 (i) ti133 rfl rfl rfl rfl (NV_get ((row_get (by omega)).trans (by rw [addT_at]))) ?_
     refine r_conv (r := ((n / B32 ^ i % B32 : Nat) : Int)) u133 u109 rfl rfl rfl (c64 _ rfl (by omega)) ?_
     refine r_arith (r := ((addC n m i + n / B32 ^ i % B32 : Nat) : Int)) rfl rfl rfl rfl (congrArg some (c64 _ rfl (by omega))) ?_
     refine r_assign rfl rfl rfl ?_
     refine run_nil ?_
     refine at_tn ?_
     refine at_seq ?_
     refine at_seq ?_
     refine at_region ?_
     refine r_move rfl rfl rfl ?_
     refine r_move rfl rfl rfl ?_
     refine r_lenS u131 rfl rfl rfl ?_
     refine r_cmpInt rfl rfl rfl rfl rfl ?_
     refine run_nil ?_
     refine at_tn ?_
     refine at_cond rfl (fun hb5 => ?_) (fun hb5 => ?_)
     ·
      have hly : i < (digs B32 m).length := (by have := of_decide_eq_true hb5; omega)
      refine at_region ?_
      refine r_move rfl rfl rfl ?_
      refine r_move rfl rfl rfl ?_
      refine r_move rfl rfl rfl ?_
      refine r_indexAddr 0 (i) u131 ti133 rfl rfl rfl rfl rfl (by omega) (by omega) (NV_ne (by omega)) (by show 0 + Int.toNat _ * 1 = _; omega) ?_
      refine r_load1 0 (i) ti133 rfl rfl rfl rfl (NV_get (digs_get B32_two hly)) ?_
      refine r_conv (r := ((m / B32 ^ i % B32 : Nat) : Int)) u133 u109 rfl rfl rfl (c64 _ rfl (by omega)) ?_
      refine r_arith (r := ((addS n m i : Nat) : Int)) rfl rfl rfl rfl (congrArg some (c64 _ rfl (by omega))) ?_
      refine r_assign rfl rfl rfl ?_
      refine run_nil ?_
      refine at_tn ?_
      refine at_region ?_
      refine r_move rfl rfl rfl ?_
      refine r_move rfl rfl rfl ?_
      refine r_move rfl rfl rfl ?_
      refine r_conv (r := ((addS n m i % 4294967296 : Nat) : Int)) u109 u133 rfl rfl rfl (c32 _ rfl) ?_
      refine r_move rfl rfl rfl ?_
      refine r_shift (r := ((addC n m (i + 1) : Nat) : Int)) rfl rfl rfl rfl (by omega) (congrArg some ((shr_u _ 32 rfl rfl (by omega)).trans (by rw [addS_carry]))) ?_
      refine r_indexAddr 2 (i) u131 ti133 rfl rfl rfl rfl rfl (by omega) (by omega) (NV_ne (by rw [row_length]; omega)) (by show 0 + Int.toNat _ * 1 = _; omega) ?_
      refine r_store1 rfl 2 (i) [_, _, ⟨some g2, 133, _, _, true⟩] (NV .u32 (row ((digs B32 n).length + 1) (addT n m (i + 1)))) ti133 rfl rfl rfl rfl rfl rfl rfl rfl (by rw [NV_length, row_length]; omega) (by rw [NV_set, row_set (fun j _ => addT_step _ _ i j)]) rfl ?_
      refine r_assign rfl rfl rfl ?_
      refine run_nil ?_
      refine at_bn ?_
      refine at_tn ?_
      refine at_region ?_
      refine r_arith (r := ((i + 1 : Nat) : Int)) rfl rfl rfl rfl (congrArg some (wi (by omega) (by omega) (by omega))) ?_
      refine r_move rfl rfl rfl ?_
      refine run_nil ?_
      refine at_tn ?_
      exact nextL ⟨i + 1, hlt⟩ (by simp only []; omega) ⟨rfl, rfl, rfl, rfl, rfl, rfl, trivial⟩ (Weak.refl _)
     ·
      have hly : (digs B32 m).length ≤ i := (by have := of_decide_eq_false hb5; omega)
      refine at_know 13 (.int .u64 (addS n m i : Nat)) rfl (by rw [addS_eq, digs_above hly]; rfl) ?_
      refine at_skip ?_
      refine at_tn ?_
      refine at_region ?_
      refine r_move rfl rfl rfl ?_
      refine r_move rfl rfl rfl ?_
      refine r_move rfl rfl rfl ?_
      refine r_conv (r := ((addS n m i % 4294967296 : Nat) : Int)) u109 u133 rfl rfl rfl (c32 _ rfl) ?_
      refine r_move rfl rfl rfl ?_
      refine r_shift (r := ((addC n m (i + 1) : Nat) : Int)) rfl rfl rfl rfl (by omega) (congrArg some ((shr_u _ 32 rfl rfl (by omega)).trans (by rw [addS_carry]))) ?_
      refine r_indexAddr 2 (i) u131 ti133 rfl rfl rfl rfl rfl (by omega) (by omega) (NV_ne (by rw [row_length]; omega)) (by show 0 + Int.toNat _ * 1 = _; omega) ?_
      refine r_store1 rfl 2 (i) [_, _, ⟨some g2, 133, _, _, true⟩] (NV .u32 (row ((digs B32 n).length + 1) (addT n m (i + 1)))) ti133 rfl rfl rfl rfl rfl rfl rfl rfl (by rw [NV_length, row_length]; omega) (by rw [NV_set, row_set (fun j _ => addT_step _ _ i j)]) rfl ?_
      refine r_assign rfl rfl rfl ?_
      refine run_nil ?_
      refine at_bn ?_
      refine at_tn ?_
      refine at_region ?_
      refine r_arith (r := ((i + 1 : Nat) : Int)) rfl rfl rfl rfl (congrArg some (wi (by omega) (by omega) (by omega))) ?_
      refine r_move rfl rfl rfl ?_
      refine run_nil ?_
      refine at_tn ?_
      exact nextL ⟨i + 1, hlt⟩ (by simp only []; omega) ⟨rfl, rfl, rfl, rfl, rfl, rfl, trivial⟩ (Weak.refl _)
    ·
     have hge : i = (digs B32 n).length + 1 := (by have := of_decide_eq_false hb4; omega)
     subst hge
     refine at_exit ?_
     refine at_te ?_
     refine at_te ?_
     refine at_be ?_
     refine at_tn ?_
     refine at_seq ?_
     refine at_region ?_
     refine r_move rfl rfl rfl ?_
     refine r_scall0 [_] [2] rfl rfl rfl (c_nat_bytes (row ((digs B32 n).length + 1) (addT n m ((digs B32 n).length + 1))) (row_lt fun j => addT_lt _ _ _ j) (by rw [row_length]; omega) (row_length _ _) ⟨some g2, _, _, Nat.le_refl _⟩) ⟨⟨_, rfl, le_share⟩, trivial⟩ rfl ?_
     refine r_assign rfl rfl rfl ?_
     refine run_nil ?_
     refine at_tn ?_
     refine at_ret ?_
     refine at_end1 rfl (res_tmp rfl) (fun w hL => ⟨?_, hL.below⟩)
     rw [addT_end hle]; rw [Nat.add_comm]
   ·
    have hle : (digs B32 n).length ≤ (digs B32 m).length := (by have := of_decide_eq_false hb2; omega)
    refine at_skip ?_
    refine at_tn ?_
    refine at_seq ?_
    refine at_region ?_
    refine r_move rfl rfl rfl ?_
    refine r_lenS u131 rfl rfl rfl ?_
    refine r_arith (r := (((digs B32 m).length + 1 : Nat) : Int)) rfl rfl rfl rfl (congrArg some (wi (by omega) (by omega) (by omega))) ?_
    refine q_makeSlice (c := (digs B32 m).length + 1) (NV .u32 (List.replicate ((digs B32 m).length + 1) 0)) (fun g => [_, _, ⟨some g, 133, _, _, true⟩]) u131 el133 rfl rfl rfl rfl rfl rfl (by omega) (by rw [NV_replicate]) (fun _ => rfl) (fun g2 => ?_)
    refine r_assign rfl rfl rfl ?_
    refine run_nil ?_
    refine at_tn ?_
    refine at_seq ?_
    refine at_region ?_
    refine r_move rfl rfl rfl ?_
    refine r_move rfl rfl rfl ?_
    refine q_copy 2 0 [_, _, ⟨some g2, 133, _, _, true⟩] (NV .u32 (row ((digs B32 m).length + 1) (addT m n 0))) u131 el133 rfl rfl rfl rfl rfl rfl rfl rfl (NV_length _ _) (by omega) (by rw [NV_length, List.length_replicate]; omega) (NV_one _ _) (addT_zero _ _) rfl ?_
    refine run_nil ?_
    refine at_tn ?_
    refine at_seq ?_
    refine at_region ?_
    refine r_assign rfl rfl rfl ?_
    refine run_nil ?_
    refine at_tn ?_
    refine at_seq ?_
    refine at_seq ?_
    refine at_region ?_
    refine r_move rfl rfl rfl ?_
    refine r_lenS u131 rfl rfl rfl ?_
    refine r_move rfl rfl rfl ?_
    refine run_nil ?_
    refine at_tn ?_
    refine at_block ?_
    refine enterL (nt := 84) (ι := {i : Nat // i ≤ (digs B32 m).length + 1}) (fun ⟨i, hi⟩ => [(10, slv (some g0) 0 (digs B32 m).length (digs B32 m).length), (11, slv (some g1) 0 (digs B32 n).length (digs B32 n).length), (12, slv (some g2) 0 ((digs B32 m).length + 1) ((digs B32 m).length + 1)), (13, .int .u64 (addC m n i : Nat)), (52, .int .i64 ((digs B32 m).length + 1 : Nat)), (53, .int .i64 (i : Nat))]) (fun ⟨i, hi⟩ => [⟨some g0, 133, NV .u32 (digs B32 m), (digs B32 m).length, true⟩, ⟨some g1, 133, NV .u32 (digs B32 n), (digs B32 n).length, true⟩, ⟨some g2, 133, NV .u32 (row ((digs B32 m).length + 1) (addT m n i)), (digs B32 m).length + 1, true⟩]) (fun ⟨i, hi⟩ => (digs B32 m).length + 1 - i) ⟨0, Nat.zero_le _⟩ ⟨rfl, rfl, rfl, (look_val rfl (by rw [addC_zero]; rfl)), rfl, rfl, trivial⟩ (Weak.refl _) ?_
    rintro ⟨i, hi⟩
    show At _ ⟨84, [(10, slv (some g0) 0 (digs B32 m).length (digs B32 m).length), (11, slv (some g1) 0 (digs B32 n).length (digs B32 n).length), (12, slv (some g2) 0 ((digs B32 m).length + 1) ((digs B32 m).length + 1)), (13, .int .u64 (addC m n i : Nat)), (52, .int .i64 ((digs B32 m).length + 1 : Nat)), (53, .int .i64 (i : Nat))], [⟨some g0, 133, NV .u32 (digs B32 m), (digs B32 m).length, true⟩, ⟨some g1, 133, NV .u32 (digs B32 n), (digs B32 n).length, true⟩, ⟨some g2, 133, NV .u32 (row ((digs B32 m).length + 1) (addT m n i)), (digs B32 m).length + 1, true⟩]⟩ _
    refine at_seq ?_
    refine at_region ?_
    refine r_cmpInt rfl rfl rfl rfl rfl ?_
    refine run_nil ?_
    refine at_tn ?_
    refine at_seq ?_
    refine at_cond rfl (fun hb4 => ?_) (fun hb4 => ?_)
    ·
     have hlt : i < (digs B32 m).length + 1 := (by have := of_decide_eq_true hb4; omega)
     have hc1 := addC_le m n i
     have hx1 := B32_mod (m / B32 ^ i)
     have hy1 := B32_mod (n / B32 ^ i)
     have hs1 := addS_lt m n i
     refine at_skip ?_
     refine at_tn ?_
     refine at_seq ?_
     refine at_block ?_
     refine at_seq ?_
     refine at_region ?_
     refine r_move rfl rfl rfl ?_
     refine r_assign rfl rfl rfl ?_
     refine run_nil ?_
     refine at_tn ?_
     refine at_seq ?_
     refine at_region ?_
     refine r_move rfl rfl rfl ?_
     refine r_move rfl rfl rfl ?_
     refine r_move rfl rfl rfl ?_
     refine r_indexAddr 2 (i) u131 ti133 rfl rfl rfl rfl rfl (by omega) (by omega) (NV_ne (by rw [row_length]; omega)) (by show 0 + Int.toNat _ * 1 = _; omega) ?_
     refine r_load1 2 (i) ti133 rfl rfl rfl rfl (NV_get ((row_get (by omega)).trans (by rw [addT_at]))) ?_
     refine r_conv (r := ((m / B32 ^ i % B32 : Nat) : Int)) u133 u109 rfl rfl rfl (c64 _ rfl (by omega)) ?_
     refine r_arith (r := ((addC m n i + m / B32 ^ i % B32 : Nat) : Int)) rfl rfl rfl rfl (congrArg some (c64 _ rfl (by omega))) ?_
     refine r_assign rfl rfl rfl ?_
     refine run_nil ?_
     refine at_tn ?_
     refine at_seq ?_
     refine at_seq ?_
     refine at_region ?_
     refine r_move rfl rfl rfl ?_
     refine r_move rfl rfl rfl ?_
     refine r_lenS u131 rfl rfl rfl ?_
     refine r_cmpInt rfl rfl rfl rfl rfl ?_
     refine run_nil ?_
     refine at_tn ?_
     refine at_cond rfl (fun hb5 => ?_) (fun hb5 => ?_)
     ·
      have hly : i < (digs B32 n).length := (by have := of_decide_eq_true hb5; omega)
      refine at_region ?_
      refine r_move rfl rfl rfl ?_
      refine r_move rfl rfl rfl ?_
      refine r_move rfl rfl rfl ?_
      refine r_indexAddr 1 (i) u131 ti133 rfl rfl rfl rfl rfl (by omega) (by omega) (NV_ne (by omega)) (by show 0 + Int.toNat _ * 1 = _; omega) ?_
      refine r_load1 1 (i) ti133 rfl rfl rfl rfl (NV_get (digs_get B32_two hly)) ?_
      refine r_conv (r := ((n / B32 ^ i % B32 : Nat) : Int)) u133 u109 rfl rfl rfl (c64 _ rfl (by omega)) ?_
      refine r_arith (r := ((addS m n i : Nat) : Int)) rfl rfl rfl rfl (congrArg some (c64 _ rfl (by omega))) ?_
      refine r_assign rfl rfl rfl ?_
      refine run_nil ?_
      refine at_tn ?_
      refine at_region ?_
      refine r_move rfl rfl rfl ?_
      refine r_move rfl rfl rfl ?_
      refine r_move rfl rfl rfl ?_
      refine r_conv (r := ((addS m n i % 4294967296 : Nat) : Int)) u109 u133 rfl rfl rfl (c32 _ rfl) ?_
      refine r_move rfl rfl rfl ?_
      refine r_shift (r := ((addC m n (i + 1) : Nat) : Int)) rfl rfl rfl rfl (by omega) (congrArg some ((shr_u _ 32 rfl rfl (by omega)).trans (by rw [addS_carry]))) ?_
      refine r_indexAddr 2 (i) u131 ti133 rfl rfl rfl rfl rfl (by omega) (by omega) (NV_ne (by rw [row_length]; omega)) (by show 0 + Int.toNat _ * 1 = _; omega) ?_
      refine r_store1 rfl 2 (i) [_, _, ⟨some g2, 133, _, _, true⟩] (NV .u32 (row ((digs B32 m).length + 1) (addT m n (i + 1)))) ti133 rfl rfl rfl rfl rfl rfl rfl rfl (by rw [NV_length, row_length]; omega) (by rw [NV_set, row_set (fun j _ => addT_step _ _ i j)]) rfl ?_
      refine r_assign rfl rfl rfl ?_
      refine run_nil ?_
      refine at_bn ?_
      refine at_tn ?_
      refine at_region ?_
      refine r_arith (r := ((i + 1 : Nat) : Int)) rfl rfl rfl rfl (congrArg some (wi (by omega) (by omega) (by omega))) ?_
      refine r_move rfl rfl rfl ?_
      refine run_nil ?_
      refine at_tn ?_
      exact nextL ⟨i + 1, hlt⟩ (by simp only []; omega) ⟨rfl, rfl, rfl, rfl, rfl, rfl, trivial⟩ (Weak.refl _)
     ·
      have hly : (digs B32 n).length ≤ i := (by have := of_decide_eq_false hb5; omega)
      refine at_know 13 (.int .u64 (addS m n i : Nat)) rfl (by rw [addS_eq, digs_above hly]; rfl) ?_
      refine at_skip ?_
      refine at_tn ?_
      refine at_region ?_
      refine r_move rfl rfl rfl ?_
      refine r_move rfl rfl rfl ?_
      refine r_move rfl rfl rfl ?_
      refine r_conv (r := ((addS m n i % 4294967296 : Nat) : Int)) u109 u133 rfl rfl rfl (c32 _ rfl) ?_
      refine r_move rfl rfl rfl ?_
      refine r_shift (r := ((addC m n (i + 1) : Nat) : Int)) rfl rfl rfl rfl (by omega) (congrArg some ((shr_u _ 32 rfl rfl (by omega)).trans (by rw [addS_carry]))) ?_
      refine r_indexAddr 2 (i) u131 ti133 rfl rfl rfl rfl rfl (by omega) (by omega) (NV_ne (by rw [row_length]; omega)) (by show 0 + Int.toNat _ * 1 = _; omega) ?_
      refine r_store1 rfl 2 (i) [_, _, ⟨some g2, 133, _, _, true⟩] (NV .u32 (row ((digs B32 m).length + 1) (addT m n (i + 1)))) ti133 rfl rfl rfl rfl rfl rfl rfl rfl (by rw [NV_length, row_length]; omega) (by rw [NV_set, row_set (fun j _ => addT_step _ _ i j)]) rfl ?_
      refine r_assign rfl rfl rfl ?_
      refine run_nil ?_
      refine at_bn ?_
      refine at_tn ?_
      refine at_region ?_
      refine r_arith (r := ((i + 1 : Nat) : Int)) rfl rfl rfl rfl (congrArg some (wi (by omega) (by omega) (by omega))) ?_
      refine r_move rfl rfl rfl ?_
      refine run_nil ?_
      refine at_tn ?_
      exact nextL ⟨i + 1, hlt⟩ (by simp only []; omega) ⟨rfl, rfl, rfl, rfl, rfl, rfl, trivial⟩ (Weak.refl _)
    ·
     have hge : i = (digs B32 m).length + 1 := (by have := of_decide_eq_false hb4; omega)
     subst hge
     refine at_exit ?_
     refine at_te ?_
     refine at_te ?_
     refine at_be ?_
     refine at_tn ?_
     refine at_seq ?_
     refine at_region ?_
     refine r_move rfl rfl rfl ?_
     refine r_scall0 [_] [2] rfl rfl rfl (c_nat_bytes (row ((digs B32 m).length + 1) (addT m n ((digs B32 m).length + 1))) (row_lt fun j => addT_lt _ _ _ j) (by rw [row_length]; omega) (row_length _ _) ⟨some g2, _, _, Nat.le_refl _⟩) ⟨⟨_, rfl, le_share⟩, trivial⟩ rfl ?_
     refine r_assign rfl rfl rfl ?_
     refine run_nil ?_
     refine at_tn ?_
     refine at_ret ?_
     refine at_end1 rfl (res_tmp rfl) (fun w hL => ⟨?_, hL.below⟩)
     rw [addT_end hle]
 ·
  refine at_skip ?_
  refine at_tn ?_
  refine at_seq ?_
  refine at_region ?_
  refine r_move rfl rfl rfl ?_
  refine r_scall [_] [] rfl rfl rfl (c_integer_digits m (by omega)) trivial rfl (.inr fun x b hb => by rw [List.mem_singleton.1 hb]) (fun g0 => ?_)
  refine r_move rfl rfl rfl ?_
  refine r_scall [_] [] rfl rfl rfl (c_integer_digits n (by omega)) trivial rfl (.inr fun x b hb => by rw [List.mem_singleton.1 hb]) (fun g1 => ?_)
  refine r_assign rfl rfl rfl ?_
  refine r_assign rfl rfl rfl ?_
  refine run_nil ?_
  refine at_tn ?_
  refine at_seq ?_
  refine at_seq ?_
  refine at_region ?_
  refine r_move rfl rfl rfl ?_
  refine r_lenS u131 rfl rfl rfl ?_
  refine r_move rfl rfl rfl ?_
  refine r_lenS u131 rfl rfl rfl ?_
  refine r_cmpInt rfl rfl rfl rfl rfl ?_
  refine run_nil ?_
  refine at_tn ?_
  refine at_cond rfl (fun hb1 => ?_) (fun hb1 => ?_)
  ·
   have hle : (digs B32 m).length ≤ (digs B32 n).length := (by have := of_decide_eq_true hb1; omega)
   refine at_region ?_
   refine r_move rfl rfl rfl ?_
   refine r_move rfl rfl rfl ?_
   refine r_assign rfl rfl rfl ?_
   refine r_assign rfl rfl rfl ?_
   refine run_nil ?_
   refine at_tn ?_
   refine at_seq ?_
   refine at_region ?_
   refine r_move rfl rfl rfl ?_
   refine r_lenS u131 rfl rfl rfl ?_
   refine r_arith (r := (((digs B32 n).length + 1 : Nat) : Int)) rfl rfl rfl rfl (congrArg some (wi (by omega) (by omega) (by omega))) ?_
   refine q_makeSlice (c := (digs B32 n).length + 1) (NV .u32 (List.replicate ((digs B32 n).length + 1) 0)) (fun g => [_, _, ⟨some g, 133, _, _, true⟩]) u131 el133 rfl rfl rfl rfl rfl rfl (by omega) (by rw [NV_replicate]) (fun _ => rfl) (fun g2 => ?_)
   refine r_assign rfl rfl rfl ?_
   refine run_nil ?_
   refine at_tn ?_
   refine at_seq ?_
   refine at_region ?_
   refine r_move rfl rfl rfl ?_
   refine r_move rfl rfl rfl ?_
   refine q_copy 2 1 [_, _, ⟨some g2, 133, _, _, true⟩] (NV .u32 (row ((digs B32 n).length + 1) (addT n m 0))) u131 el133 rfl rfl rfl rfl rfl rfl rfl rfl (NV_length _ _) (by omega) (by rw [NV_length, List.length_replicate]; omega) (NV_one _ _) (addT_zero _ _) rfl ?_
   refine run_nil ?_
   refine at_tn ?_
   refine at_seq ?_
   refine at_region ?_
   refine r_assign rfl rfl rfl ?_
   refine run_nil ?_
   refine at_tn ?_
   refine at_seq ?_
   refine at_seq ?_
   refine at_region ?_
   refine r_move rfl rfl rfl ?_
   refine r_lenS u131 rfl rfl rfl ?_
   refine r_move rfl rfl rfl ?_
   refine run_nil ?_
   refine at_tn ?_
   refine at_block ?_
   refine enterL (nt := 84) (ι := {i : Nat // i ≤ (digs B32 n).length + 1}) (fun ⟨i, hi⟩ => [(10, slv (some g1) 0 (digs B32 n).length (digs B32 n).length), (11, slv (some g0) 0 (digs B32 m).length (digs B32 m).length), (12, slv (some g2) 0 ((digs B32 n).length + 1) ((digs B32 n).length + 1)), (13, .int .u64 (addC n m i : Nat)), (52, .int .i64 ((digs B32 n).length + 1 : Nat)), (53, .int .i64 (i : Nat))]) (fun ⟨i, hi⟩ => [⟨some g0, 133, NV .u32 (digs B32 m), (digs B32 m).length, true⟩, ⟨some g1, 133, NV .u32 (digs B32 n), (digs B32 n).length, true⟩, ⟨some g2, 133, NV .u32 (row ((digs B32 n).length + 1) (addT n m i)), (digs B32 n).length + 1, true⟩]) (fun ⟨i, hi⟩ => (digs B32 n).length + 1 - i) ⟨0, Nat.zero_le _⟩ ⟨rfl, rfl, rfl, (look_val rfl (by rw [addC_zero]; rfl)), rfl, rfl, trivial⟩ (Weak.refl _) ?_
   rintro ⟨i, hi⟩
   show At _ ⟨84, [(10, slv (some g1) 0 (digs B32 n).length (digs B32 n).length), (11, slv (some g0) 0 (digs B32 m).length (digs B32 m).length), (12, slv (some g2) 0 ((digs B32 n).length + 1) ((digs B32 n).length + 1)), (13, .int .u64 (addC n m i : Nat)), (52, .int .i64 ((digs B32 n).length + 1 : Nat)), (53, .int .i64 (i : Nat))], [⟨some g0, 133, NV .u32 (digs B32 m), (digs B32 m).length, true⟩, ⟨some g1, 133, NV .u32 (digs B32 n), (digs B32 n).length, true⟩, ⟨some g2, 133, NV .u32 (row ((digs B32 n).length + 1) (addT n m i)), (digs B32 n).length + 1, true⟩]⟩ _
   refine at_seq ?_
   refine at_region ?_
   refine r_cmpInt rfl rfl rfl rfl rfl ?_
   refine run_nil ?_
   refine at_tn ?_
   refine at_seq ?_
   refine at_cond rfl (fun hb3 => ?_) (fun hb3 => ?_)
   ·
    have hlt : i < (digs B32 n).length + 1 := (by have := of_decide_eq_true hb3; omega)
    have hc1 := addC_le n m i
    have hx1 := B32_mod (n / B32 ^ i)
    have hy1 := B32_mod (m / B32 ^ i)
    have hs1 := addS_lt n m i
    refine at_skip ?_
    refine at_tn ?_
    refine at_seq ?_
    refine at_block ?_
    refine at_seq ?_
    refine at_region ?_
    refine r_move rfl rfl rfl ?_
    refine r_assign rfl rfl rfl ?_
    refine run_nil ?_
    refine at_tn ?_
    refine at_seq ?_
    refine at_region ?_
    refine r_move rfl rfl rfl ?_
    refine r_move rfl rfl rfl ?_
    refine r_move rfl rfl rfl ?_
    refine r_indexAddr 2 (i) u131 ti133 rfl rfl rfl rfl rfl (by omega) (by omega) (NV_ne (by rw [row_length]; omega)) (by show 0 + Int.toNat _ * 1 = _; omega) ?_
    refine r_load1 2 (i) ti133 rfl rfl rfl rfl (NV_get ((row_get (by omega)).trans (by rw [addT_at]))) ?_
    refine r_conv (r := ((n / B32 ^ i % B32 : Nat) : Int)) u133 u109 rfl rfl rfl (c64 _ rfl (by omega)) ?_
    refine r_arith (r := ((addC n m i + n / B32 ^ i % B32 : Nat) : Int)) rfl rfl rfl rfl (congrArg some (c64 _ rfl (by omega))) ?_
    refine r_assign rfl rfl rfl ?_
    refine run_nil ?_
    refine at_tn ?_
    refine at_seq ?_
    refine at_seq ?_
    refine at_region ?_
    refine r_move rfl rfl rfl ?_
    refine r_move rfl rfl rfl ?_
    refine r_lenS u131 rfl rfl rfl ?_
    refine r_cmpInt rfl rfl rfl rfl rfl ?_
    refine run_nil ?_
    refine at_tn ?_
    refine at_cond rfl (fun hb4 => ?_) (fun hb4 => ?_)
    ·
     have hly : i < (digs B32 m).length := (by have := of_decide_eq_true hb4; omega)
     refine at_region ?_
     refine r_move rfl rfl rfl ?_
     refine r_move rfl rfl rfl ?_
     refine r_move rfl rfl rfl ?_
     refine r_indexAddr 0 (i) u131 ti133 rfl rfl rfl rfl rfl (by omega) (by omega) (NV_ne (by omega)) (by show 0 + Int.toNat _ * 1 = _; omega) ?_
     refine r_load1 0 (i) ti133 rfl rfl rfl rfl (NV_get (digs_get B32_two hly)) ?_
     refine r_conv (r := ((m / B32 ^ i % B32 : Nat) : Int)) u133 u109 rfl rfl rfl (c64 _ rfl (by omega)) ?_
     refine r_arith (r := ((addS n m i : Nat) : Int)) rfl rfl rfl rfl (congrArg some (c64 _ rfl (by omega))) ?_
     refine r_assign rfl rfl rfl ?_
     refine run_nil ?_
     refine at_tn ?_
     refine at_region ?_
     refine r_move rfl rfl rfl ?_
     refine r_move rfl rfl rfl ?_
     refine r_move rfl rfl rfl ?_
     refine r_conv (r := ((addS n m i % 4294967296 : Nat) : Int)) u109 u133 rfl rfl rfl (c32 _ rfl) ?_
     refine r_move rfl rfl rfl ?_
     refine r_shift (r := ((addC n m (i + 1) : Nat) : Int)) rfl rfl rfl rfl (by omega) (congrArg some ((shr_u _ 32 rfl rfl (by omega)).trans (by rw [addS_carry]))) ?_
     refine r_indexAddr 2 (i) u131 ti133 rfl rfl rfl rfl rfl (by omega) (by omega) (NV_ne (by rw [row_length]; omega)) (by show 0 + Int.toNat _ * 1 = _; omega) ?_
     refine r_store1 rfl 2 (i) [_, _, ⟨some g2, 133, _, _, true⟩] (NV .u32 (row ((digs B32 n).length + 1) (addT n m (i + 1)))) ti133 rfl rfl rfl rfl rfl rfl rfl rfl (by rw [NV_length, row_length]; omega) (by rw [NV_set, row_set (fun j _ => addT_step _ _ i j)]) rfl ?_
     refine r_assign rfl rfl rfl ?_
     refine run_nil ?_
     refine at_bn ?_
     refine at_tn ?_
     refine at_region ?_
     refine r_arith (r := ((i + 1 : Nat) : Int)) rfl rfl rfl rfl (congrArg some (wi (by omega) (by omega) (by omega))) ?_
     refine r_move rfl rfl rfl ?_
     refine run_nil ?_
     refine at_tn ?_
     exact nextL ⟨i + 1, hlt⟩ (by simp only []; omega) ⟨rfl, rfl, rfl, rfl, rfl, rfl, trivial⟩ (Weak.refl _)
    ·
     have hly : (digs B32 m).length ≤ i := (by have := of_decide_eq_false hb4; omega)
     refine at_know 13 (.int .u64 (addS n m i : Nat)) rfl (by rw [addS_eq, digs_above hly]; rfl) ?_
     refine at_skip ?_
     refine at_tn ?_
     refine at_region ?_
     refine r_move rfl rfl rfl ?_
     refine r_move rfl rfl rfl ?_
     refine r_move rfl rfl rfl ?_
     refine r_conv (r := ((addS n m i % 4294967296 : Nat) : Int)) u109 u133 rfl rfl rfl (c32 _ rfl) ?_
     refine r_move rfl rfl rfl ?_
     refine r_shift (r := ((addC n m (i + 1) : Nat) : Int)) rfl rfl rfl rfl (by omega) (congrArg some ((shr_u _ 32 rfl rfl (by omega)).trans (by rw [addS_carry]))) ?_
     refine r_indexAddr 2 (i) u131 ti133 rfl rfl rfl rfl rfl (by omega) (by omega) (NV_ne (by rw [row_length]; omega)) (by show 0 + Int.toNat _ * 1 = _; omega) ?_
     refine r_store1 rfl 2 (i) [_, _, ⟨some g2, 133, _, _, true⟩] (NV .u32 (row ((digs B32 n).length + 1) (addT n m (i + 1)))) ti133 rfl rfl rfl rfl rfl rfl rfl rfl (by rw [NV_length, row_length]; omega) (by rw [NV_set, row_set (fun j _ => addT_step _ _ i j)]) rfl ?_
     refine r_assign rfl rfl rfl ?_
     refine run_nil ?_
     refine at_bn ?_
     refine at_tn ?_
     refine at_region ?_
     refine r_arith (r := ((i + 1 : Nat) : Int)) rfl rfl rfl rfl (congrArg some (wi (by omega) (by omega) (by omega))) ?_
     refine r_move rfl rfl rfl ?_
     refine run_nil ?_
     refine at_tn ?_
     exact nextL ⟨i + 1, hlt⟩ (by simp only []; omega) ⟨rfl, rfl, rfl, rfl, rfl, rfl, trivial⟩ (Weak.refl _)
   ·
    have hge : i = (digs B32 n).length + 1 := (by have := of_decide_eq_false hb3; omega)
    subst hge
    refine at_exit ?_
    refine at_te ?_
    refine at_te ?_
    refine at_be ?_
    refine at_tn ?_
    refine at_seq ?_
    refine at_region ?_
    refine r_move rfl rfl rfl ?_
    refine r_scall0 [_] [2] rfl rfl rfl (c_nat_bytes (row ((digs B32 n).length + 1) (addT n m ((digs B32 n).length + 1))) (row_lt fun j => addT_lt _ _ _ j) (by rw [row_length]; omega) (row_length _ _) ⟨some g2, _, _, Nat.le_refl _⟩) ⟨⟨_, rfl, le_share⟩, trivial⟩ rfl ?_
    refine r_assign rfl rfl rfl ?_
    refine run_nil ?_
    refine at_tn ?_
    refine at_ret ?_
    refine at_end1 rfl (res_tmp rfl) (fun w hL => ⟨?_, hL.below⟩)
    rw [addT_end hle]; rw [Nat.add_comm]
  ·
   have hle : (digs B32 n).length ≤ (digs B32 m).length := (by have := of_decide_eq_false hb1; omega)
   refine at_skip ?_
   refine at_tn ?_
   refine at_seq ?_
   refine at_region ?_
   refine r_move rfl rfl rfl ?_
   refine r_lenS u131 rfl rfl rfl ?_
   refine r_arith (r := (((digs B32 m).length + 1 : Nat) : Int)) rfl rfl rfl rfl (congrArg some (wi (by omega) (by omega) (by omega))) ?_
   refine q_makeSlice (c := (digs B32 m).length + 1) (NV .u32 (List.replicate ((digs B32 m).length + 1) 0)) (fun g => [_, _, ⟨some g, 133, _, _, true⟩]) u131 el133 rfl rfl rfl rfl rfl rfl (by omega) (by rw [NV_replicate]) (fun _ => rfl) (fun g2 => ?_)
   refine r_assign rfl rfl rfl ?_
   refine run_nil ?_
   refine at_tn ?_
   refine at_seq ?_
   refine at_region ?_
   refine r_move rfl rfl rfl ?_
   refine r_move rfl rfl rfl ?_
   refine q_copy 2 0 [_, _, ⟨some g2, 133, _, _, true⟩] (NV .u32 (row ((digs B32 m).length + 1) (addT m n 0))) u131 el133 rfl rfl rfl rfl rfl rfl rfl rfl (NV_length _ _) (by omega) (by rw [NV_length, List.length_replicate]; omega) (NV_one _ _) (addT_zero _ _) rfl ?_
   refine run_nil ?_
   refine at_tn ?_
   refine at_seq ?_
   refine at_region ?_
   refine r_assign rfl rfl rfl ?_
   refine run_nil ?_
   refine at_tn ?_
   refine at_seq ?_
   refine at_seq ?_
   refine at_region ?_
   refine r_move rfl rfl rfl ?_
   refine r_lenS u131 rfl rfl rfl ?_
   refine r_move rfl rfl rfl ?_
   refine run_nil ?_
   refine at_tn ?_
   refine at_block ?_
   refine enterL (nt := 84) (ι := {i : Nat // i ≤ (digs B32 m).length + 1}) (fun ⟨i, hi⟩ => [(10, slv (some g0) 0 (digs B32 m).length (digs B32 m).length), (11, slv (some g1) 0 (digs B32 n).length (digs B32 n).length), (12, slv (some g2) 0 ((digs B32 m).length + 1) ((digs B32 m).length + 1)), (13, .int .u64 (addC m n i : Nat)), (52, .int .i64 ((digs B32 m).length + 1 : Nat)), (53, .int .i64 (i : Nat))]) (fun ⟨i, hi⟩ => [⟨some g0, 133, NV .u32 (digs B32 m), (digs B32 m).length, true⟩, ⟨some g1, 133, NV .u32 (digs B32 n), (digs B32 n).length, true⟩, ⟨some g2, 133, NV .u32 (row ((digs B32 m).length + 1) (addT m n i)), (digs B32 m).length + 1, true⟩]) (fun ⟨i, hi⟩ => (digs B32 m).length + 1 - i) ⟨0, Nat.zero_le _⟩ ⟨rfl, rfl, rfl, (look_val rfl (by rw [addC_zero]; rfl)), rfl, rfl, trivial⟩ (Weak.refl _) ?_
   rintro ⟨i, hi⟩
   show At _ ⟨84, [(10, slv (some g0) 0 (digs B32 m).length (digs B32 m).length), (11, slv (some g1) 0 (digs B32 n).length (digs B32 n).length), (12, slv (some g2) 0 ((digs B32 m).length + 1) ((digs B32 m).length + 1)), (13, .int .u64 (addC m n i : Nat)), (52, .int .i64 ((digs B32 m).length + 1 : Nat)), (53, .int .i64 (i : Nat))], [⟨some g0, 133, NV .u32 (digs B32 m), (digs B32 m).length, true⟩, ⟨some g1, 133, NV .u32 (digs B32 n), (digs B32 n).length, true⟩, ⟨some g2, 133, NV .u32 (row ((digs B32 m).length + 1) (addT m n i)), (digs B32 m).length + 1, true⟩]⟩ _
   refine at_seq ?_
   refine at_region ?_
   refine r_cmpInt rfl rfl rfl rfl rfl ?_
   refine run_nil ?_
   refine at_tn ?_
   refine at_seq ?_
   refine at_cond rfl (fun hb3 => ?_) (fun hb3 => ?_)
   ·
    have hlt : i < (digs B32 m).length + 1 := (by have := of_decide_eq_true hb3; omega)
    have hc1 := addC_le m n i
    have hx1 := B32_mod (m / B32 ^ i)
    have hy1 := B32_mod (n / B32 ^ i)
    have hs1 := addS_lt m n i
    refine at_skip ?_
    refine at_tn ?_
    refine at_seq ?_
    refine at_block ?_
    refine at_seq ?_
    refine at_region ?_
    refine r_move rfl rfl rfl ?_
    refine r_assign rfl rfl rfl ?_
    refine run_nil ?_
    refine at_tn ?_
    refine at_seq ?_
    refine at_region ?_
    refine r_move rfl rfl rfl ?_
    refine r_move rfl rfl rfl ?_
    refine r_move rfl rfl rfl ?_
    refine r_indexAddr 2 (i) u131 ti133 rfl rfl rfl rfl rfl (by omega) (by omega) (NV_ne (by rw [row_length]; omega)) (by show 0 + Int.toNat _ * 1 = _; omega) ?_
    refine r_load1 2 (i) ti133 rfl rfl rfl rfl (NV_get ((row_get (by omega)).trans (by rw [addT_at]))) ?_
    refine r_conv (r := ((m / B32 ^ i % B32 : Nat) : Int)) u133 u109 rfl rfl rfl (c64 _ rfl (by omega)) ?_
    refine r_arith (r := ((addC m n i + m / B32 ^ i % B32 : Nat) : Int)) rfl rfl rfl rfl (congrArg some (c64 _ rfl (by omega))) ?_
    refine r_assign rfl rfl rfl ?_
    refine run_nil ?_
    refine at_tn ?_
    refine at_seq ?_
    refine at_seq ?_
    refine at_region ?_
    refine r_move rfl rfl rfl ?_
    refine r_move rfl rfl rfl ?_
    refine r_lenS u131 rfl rfl rfl ?_
    refine r_cmpInt rfl rfl rfl rfl rfl ?_
    refine run_nil ?_
    refine at_tn ?_
    refine at_cond rfl (fun hb4 => ?_) (fun hb4 => ?_)
    ·
     have hly : i < (digs B32 n).length := (by have := of_decide_eq_true hb4; omega)
     refine at_region ?_
     refine r_move rfl rfl rfl ?_
     refine r_move rfl rfl rfl ?_
     refine r_move rfl rfl rfl ?_
     refine r_indexAddr 1 (i) u131 ti133 rfl rfl rfl rfl rfl (by omega) (by omega) (NV_ne (by omega)) (by show 0 + Int.toNat _ * 1 = _; omega) ?_
     refine r_load1 1 (i) ti133 rfl rfl rfl rfl (NV_get (digs_get B32_two hly)) ?_
     refine r_conv (r := ((n / B32 ^ i % B32 : Nat) : Int)) u133 u109 rfl rfl rfl (c64 _ rfl (by omega)) ?_
     refine r_arith (r := ((addS m n i : Nat) : Int)) rfl rfl rfl rfl (congrArg some (c64 _ rfl (by omega))) ?_
     refine r_assign rfl rfl rfl ?_
     refine run_nil ?_
     refine at_tn ?_
     refine at_region ?_
     refine r_move rfl rfl rfl ?_
     refine r_move rfl rfl rfl ?_
     refine r_move rfl rfl rfl ?_
     refine r_conv (r := ((addS m n i % 4294967296 : Nat) : Int)) u109 u133 rfl rfl rfl (c32 _ rfl) ?_
     refine r_move rfl rfl rfl ?_
     refine r_shift (r := ((addC m n (i + 1) : Nat) : Int)) rfl rfl rfl rfl (by omega) (congrArg some ((shr_u _ 32 rfl rfl (by omega)).trans (by rw [addS_carry]))) ?_
     refine r_indexAddr 2 (i) u131 ti133 rfl rfl rfl rfl rfl (by omega) (by omega) (NV_ne (by rw [row_length]; omega)) (by show 0 + Int.toNat _ * 1 = _; omega) ?_
     refine r_store1 rfl 2 (i) [_, _, ⟨some g2, 133, _, _, true⟩] (NV .u32 (row ((digs B32 m).length + 1) (addT m n (i + 1)))) ti133 rfl rfl rfl rfl rfl rfl rfl rfl (by rw [NV_length, row_length]; omega) (by rw [NV_set, row_set (fun j _ => addT_step _ _ i j)]) rfl ?_
     refine r_assign rfl rfl rfl ?_
     refine run_nil ?_
     refine at_bn ?_
     refine at_tn ?_
     refine at_region ?_
     refine r_arith (r := ((i + 1 : Nat) : Int)) rfl rfl rfl rfl (congrArg some (wi (by omega) (by omega) (by omega))) ?_
     refine r_move rfl rfl rfl ?_
     refine run_nil ?_
     refine at_tn ?_
     exact nextL ⟨i + 1, hlt⟩ (by simp only []; omega) ⟨rfl, rfl, rfl, rfl, rfl, rfl, trivial⟩ (Weak.refl _)
    ·
     have hly : (digs B32 n).length ≤ i := (by have := of_decide_eq_false hb4; omega)
     refine at_know 13 (.int .u64 (addS m n i : Nat)) rfl (by rw [addS_eq, digs_above hly]; rfl) ?_
     refine at_skip ?_
     refine at_tn ?_
     refine at_region ?_
     refine r_move rfl rfl rfl ?_
     refine r_move rfl rfl rfl ?_
     refine r_move rfl rfl rfl ?_
     refine r_conv (r := ((addS m n i % 4294967296 : Nat) : Int)) u109 u133 rfl rfl rfl (c32 _ rfl) ?_
     refine r_move rfl rfl rfl ?_
     refine r_shift (r := ((addC m n (i + 1) : Nat) : Int)) rfl rfl rfl rfl (by omega) (congrArg some ((shr_u _ 32 rfl rfl (by omega)).trans (by rw [addS_carry]))) ?_
     refine r_indexAddr 2 (i) u131 ti133 rfl rfl rfl rfl rfl (by omega) (by omega) (NV_ne (by rw [row_length]; omega)) (by show 0 + Int.toNat _ * 1 = _; omega) ?_
     refine r_store1 rfl 2 (i) [_, _, ⟨some g2, 133, _, _, true⟩] (NV .u32 (row ((digs B32 m).length + 1) (addT m n (i + 1)))) ti133 rfl rfl rfl rfl rfl rfl rfl rfl (by rw [NV_length, row_length]; omega) (by rw [NV_set, row_set (fun j _ => addT_step _ _ i j)]) rfl ?_
     refine r_assign rfl rfl rfl ?_
     refine run_nil ?_
     refine at_bn ?_
     refine at_tn ?_
     refine at_region ?_
     refine r_arith (r := ((i + 1 : Nat) : Int)) rfl rfl rfl rfl (congrArg some (wi (by omega) (by omega) (by omega))) ?_
     refine r_move rfl rfl rfl ?_
     refine run_nil ?_
     refine at_tn ?_
     exact nextL ⟨i + 1, hlt⟩ (by simp only []; omega) ⟨rfl, rfl, rfl, rfl, rfl, rfl, trivial⟩ (Weak.refl _)
   ·
    have hge : i = (digs B32 m).length + 1 := (by have := of_decide_eq_false hb3; omega)
    subst hge
    refine at_exit ?_
    refine at_te ?_
    refine at_te ?_
    refine at_be ?_
    refine at_tn ?_
    refine at_seq ?_
    refine at_region ?_
    refine r_move rfl rfl rfl ?_
    refine r_scall0 [_] [2] rfl rfl rfl (c_nat_bytes (row ((digs B32 m).length + 1) (addT m n ((digs B32 m).length + 1))) (row_lt fun j => addT_lt _ _ _ j) (by rw [row_length]; omega) (row_length _ _) ⟨some g2, _, _, Nat.le_refl _⟩) ⟨⟨_, rfl, le_share⟩, trivial⟩ rfl ?_
    refine r_assign rfl rfl rfl ?_
    refine run_nil ?_
    refine at_tn ?_
    refine at_ret ?_
    refine at_end1 rfl (res_tmp rfl) (fun w hL => ⟨?_, hL.below⟩)
    rw [addT_end hle]
end Go.Proofs.YthnlafhnpphdhaaGreatDoor
set_option linter.unusedVariables false
namespace Go.Proofs.YthnlafhnpphdhaaGreatDoor
open Go Go.RowKit Go.Via
set_option maxRecDepth 20000 in
theorem c_integer_sub (m n : Nat) (hm : nb m ≤ 67108864) (h : n ≤ m) : PCall Tryz.prog 120 #[.string (mag m), .string (mag n)] (.string (mag (m - n))) := by
 have hdm := dig_len_le hm
 have hn : nb n ≤ 67108864 := Nat.le_trans (nb_mono h) hm
 have hdn := dig_len_le hn
 have hdl : (digs B32 n).length ≤ (digs B32 m).length := digs_length_mono B32_two h
 refine ⟨by kernel_rfl, fun w => ?_⟩
 refine calls_at (args := [.string (mag m), .string (mag n)]) Tryz.func120 rfl (Nat.le_of_ble_eq_true rfl) (LRel.nil w) ?_
 show At w ⟨71, [(0, .string (mag m)), (1, .string (mag n))], []⟩ _
 refine at_seq ?_
 refine at_region ?_
 refine r_assign rfl rfl rfl ?_
 refine run_nil ?_
 refine at_tn ?_
 refine at_seq ?_
 refine at_seq ?_
 refine at_region ?_
 refine r_move rfl rfl rfl ?_
 refine r_move rfl rfl rfl ?_
 refine r_pcall [_, _] rfl rfl rfl (c_integer_words _ _) ?_
 refine r_move rfl rfl rfl ?_
 refine r_extract (vs := [_, _, _]) rfl rfl rfl rfl ?_
 refine r_extract (vs := [_, _, _]) rfl rfl rfl rfl ?_
 refine r_extract (vs := [_, _, _]) rfl rfl rfl rfl ?_
 refine r_assign rfl rfl rfl ?_
 refine r_assign rfl rfl rfl ?_
 refine r_assign rfl rfl rfl ?_
 refine run_nil ?_
 refine at_tn ?_
 refine at_seq ?_
 refine at_region ?_
 refine r_move rfl rfl rfl ?_
 refine run_nil ?_
 refine at_tn ?_
 refine at_cond rfl (fun hb0 => ?_) (fun hb0 => ?_)
 ·
  obtain ⟨hw1, hw2, hw3, hw4⟩ := words_T hb0
  refine at_know 5 (.int .u64 (m : Nat)) rfl (by rw [if_pos hw3]) ?_
  refine at_know 6 (.int .u64 (n : Nat)) rfl (by rw [if_pos hw4]) ?_
  refine at_seq ?_
  refine at_region ?_
  refine r_move rfl rfl rfl ?_
  refine r_move rfl rfl rfl ?_
  refine r_arith (r := ((m - n : Nat) : Int)) rfl rfl rfl rfl (congrArg some (c64 _ (by omega) (by omega))) ?_
  refine r_pcall [_] rfl rfl rfl (c_integer_magnitude _ (by omega)) ?_
  refine r_assign rfl rfl rfl ?_
  refine run_nil ?_
  refine at_tn ?_
  refine at_ret ?_
  refine at_tr ?_
  refine at_end1 rfl (res_tmp rfl) (fun w hL => ⟨?_, hL.below⟩)
  exact rfl
 ·
  refine at_skip ?_
  refine at_tn ?_
  refine at_seq ?_
  refine at_region ?_
  refine r_move rfl rfl rfl ?_
  refine r_scall [_] [] rfl rfl rfl (c_integer_digits m (by omega)) trivial rfl (.inr fun x b hb => by rw [List.mem_singleton.1 hb]) (fun g0 => ?_)
  refine r_move rfl rfl rfl ?_
  refine r_scall [_] [] rfl rfl rfl (c_integer_digits n (by omega)) trivial rfl (.inr fun x b hb => by rw [List.mem_singleton.1 hb]) (fun g1 => ?_)
  refine r_assign rfl rfl rfl ?_
  refine r_assign rfl rfl rfl ?_
  refine run_nil ?_
  refine at_tn ?_
  refine at_seq ?_
  refine at_region ?_
  refine r_move rfl rfl rfl ?_
  refine r_lenS u131 rfl rfl rfl ?_
  refine q_makeSlice (c := (digs B32 m).length) (NV .u32 (List.replicate (digs B32 m).length 0)) (fun g => [_, _, ⟨some g, 133, _, _, true⟩]) u131 el133 rfl rfl rfl rfl rfl rfl (by omega) (by rw [NV_replicate]) (fun _ => rfl) (fun g2 => ?_)
  refine r_assign rfl rfl rfl ?_
  refine run_nil ?_
  refine at_tn ?_
  refine at_seq ?_
  refine at_region ?_
  refine r_move rfl rfl rfl ?_
  refine r_move rfl rfl rfl ?_
  refine q_copy 2 0 [_, _, ⟨some g2, 133, _, _, true⟩] (NV .u32 (row (digs B32 m).length (subT m n 0))) u131 el133 rfl rfl rfl rfl rfl rfl rfl rfl (NV_length _ _) (Nat.le_refl _) (by rw [NV_length, List.length_replicate]; exact Nat.le_refl _) (NV_one _ _) (subT_zero _ _) rfl ?_
  refine run_nil ?_
  refine at_tn ?_
  refine at_seq ?_
  refine at_region ?_
  refine r_assign rfl rfl rfl ?_
  refine run_nil ?_
  refine at_tn ?_
  refine at_seq ?_
  refine at_seq ?_
  refine at_region ?_
  refine r_move rfl rfl rfl ?_
  refine r_lenS u131 rfl rfl rfl ?_
  refine r_move rfl rfl rfl ?_
  refine run_nil ?_
  refine at_tn ?_
  refine at_block ?_
  refine enterL (nt := 71) (ι := {i : Nat // i ≤ (digs B32 m).length}) (fun ⟨i, hi⟩ => [(8, slv (some g0) 0 (digs B32 m).length (digs B32 m).length), (9, slv (some g1) 0 (digs B32 n).length (digs B32 n).length), (10, slv (some g2) 0 (digs B32 m).length (digs B32 m).length), (11, .int .i64 (subB m n i : Nat)), (37, .int .i64 ((digs B32 m).length : Nat)), (38, .int .i64 (i : Nat))]) (fun ⟨i, hi⟩ => [⟨some g0, 133, NV .u32 (digs B32 m), (digs B32 m).length, true⟩, ⟨some g1, 133, NV .u32 (digs B32 n), (digs B32 n).length, true⟩, ⟨some g2, 133, NV .u32 (row (digs B32 m).length (subT m n i)), (digs B32 m).length, true⟩]) (fun ⟨i, hi⟩ => (digs B32 m).length - i) ⟨0, Nat.zero_le _⟩ ⟨rfl, rfl, rfl, (look_val rfl (by rw [subB_zero]; rfl)), rfl, rfl, trivial⟩ (Weak.refl _) ?_
  rintro ⟨i, hi⟩
  show At _ ⟨71, [(8, slv (some g0) 0 (digs B32 m).length (digs B32 m).length), (9, slv (some g1) 0 (digs B32 n).length (digs B32 n).length), (10, slv (some g2) 0 (digs B32 m).length (digs B32 m).length), (11, .int .i64 (subB m n i : Nat)), (37, .int .i64 ((digs B32 m).length : Nat)), (38, .int .i64 (i : Nat))], [⟨some g0, 133, NV .u32 (digs B32 m), (digs B32 m).length, true⟩, ⟨some g1, 133, NV .u32 (digs B32 n), (digs B32 n).length, true⟩, ⟨some g2, 133, NV .u32 (row (digs B32 m).length (subT m n i)), (digs B32 m).length, true⟩]⟩ _
  refine at_seq ?_
  refine at_region ?_
  refine r_cmpInt rfl rfl rfl rfl rfl ?_
  refine run_nil ?_
  refine at_tn ?_
  refine at_seq ?_
  refine at_cond rfl (fun hb2 => ?_) (fun hb2 => ?_)
  ·
   have hlt : i < (digs B32 m).length := (by have := of_decide_eq_true hb2; omega)
   have hb1 := subB_le m n i
   have hx1 := B32_mod (m / B32 ^ i)
   have hy1 := B32_mod (n / B32 ^ i)
   have hz1 := B32_mod ((m - n) / B32 ^ i)
   refine at_skip ?_
   refine at_tn ?_
   refine at_seq ?_
   refine at_block ?_
   refine at_seq ?_
   refine at_region ?_
   refine r_move rfl rfl rfl ?_
   refine r_assign rfl rfl rfl ?_
   refine run_nil ?_
   refine at_tn ?_
   refine at_seq ?_
   refine at_region ?_
   refine r_move rfl rfl rfl ?_
   refine r_move rfl rfl rfl ?_
   refine r_indexAddr 2 (i) u131 ti133 rfl rfl rfl rfl rfl (by omega) (by omega) (NV_ne (by rw [row_length]; omega)) (by show 0 + Int.toNat _ * 1 = _; omega) ?_
   refine r_load1 2 (i) ti133 rfl rfl rfl rfl (NV_get ((row_get (by omega)).trans (by rw [subT_at]))) ?_
   refine r_conv (r := ((m / B32 ^ i % B32 : Nat) : Int)) u133 u2 rfl rfl rfl (wi (by omega) (by omega) (by omega)) ?_
   refine r_move rfl rfl rfl ?_
   refine r_arith (r := ((m / B32 ^ i % B32 : Nat) - (subB m n i : Nat) : Int)) rfl rfl rfl rfl (congrArg some (wi (by omega) (by omega) (by omega))) ?_
   refine r_assign rfl rfl rfl ?_
   refine run_nil ?_
   refine at_tn ?_
   refine at_seq ?_
   refine at_seq ?_
   refine at_region ?_
   refine r_move rfl rfl rfl ?_
   refine r_move rfl rfl rfl ?_
   refine r_lenS u131 rfl rfl rfl ?_
   refine r_cmpInt rfl rfl rfl rfl rfl ?_
   refine run_nil ?_
   refine at_tn ?_
   refine at_cond rfl (fun hb3 => ?_) (fun hb3 => ?_)
   ·
    have hly : i < (digs B32 n).length := (by have := of_decide_eq_true hb3; omega)
    refine at_region ?_
    refine r_move rfl rfl rfl ?_
    refine r_move rfl rfl rfl ?_
    refine r_move rfl rfl rfl ?_
    refine r_indexAddr 1 (i) u131 ti133 rfl rfl rfl rfl rfl (by omega) (by omega) (NV_ne (by omega)) (by show 0 + Int.toNat _ * 1 = _; omega) ?_
    refine r_load1 1 (i) ti133 rfl rfl rfl rfl (NV_get (digs_get B32_two hly)) ?_
    refine r_conv (r := ((n / B32 ^ i % B32 : Nat) : Int)) u133 u2 rfl rfl rfl (wi (by omega) (by omega) (by omega)) ?_
    refine r_arith (r := ((m / B32 ^ i % B32 : Nat) - (subB m n i : Nat) - (n / B32 ^ i % B32 : Nat) : Int)) rfl rfl rfl rfl (congrArg some (wi (by omega) (by omega) (by omega))) ?_
    refine r_assign rfl rfl rfl ?_
    refine run_nil ?_
    refine at_tn ?_
    refine at_seq ?_
    refine at_region ?_
    refine r_assign rfl rfl rfl ?_
    refine run_nil ?_
    refine at_tn ?_
    refine at_seq ?_
    refine at_seq ?_
    refine at_region ?_
    refine r_move rfl rfl rfl ?_
    refine r_cmpInt rfl rfl rfl rfl rfl ?_
    refine run_nil ?_
    refine at_tn ?_
    refine at_cond rfl (fun hb4 => ?_) (fun hb4 => ?_)
    ·
     obtain ⟨hd1, hd2⟩ := sub_neg (m := m) (n := n) (i := i) h (by have := of_decide_eq_true hb4; omega)
     refine at_region ?_
     refine r_move rfl rfl rfl ?_
     refine r_arith (r := (((m - n) / B32 ^ i % B32 : Nat) : Int)) rfl rfl rfl rfl (congrArg some (wi (by omega) (by omega) (by omega))) ?_
     refine r_assign rfl rfl rfl ?_
     refine r_assign rfl rfl rfl ?_
     refine run_nil ?_
     refine at_tn ?_
     refine at_region ?_
     refine r_move rfl rfl rfl ?_
     refine r_move rfl rfl rfl ?_
     refine r_move rfl rfl rfl ?_
     refine r_conv (r := (((m - n) / B32 ^ i % B32 : Nat) : Int)) u2 u133 rfl rfl rfl ((c32 _ rfl).trans (by rw [Nat.mod_eq_of_lt (by omega)])) ?_
     refine r_indexAddr 2 (i) u131 ti133 rfl rfl rfl rfl rfl (by omega) (by omega) (NV_ne (by rw [row_length]; omega)) (by show 0 + Int.toNat _ * 1 = _; omega) ?_
     refine r_store1 rfl 2 (i) [_, _, ⟨some g2, 133, _, _, true⟩] (NV .u32 (row (digs B32 m).length (subT m n (i + 1)))) ti133 rfl rfl rfl rfl rfl rfl rfl rfl (by rw [NV_length, row_length]; omega) (by rw [NV_set, row_set (fun j _ => subT_step _ _ i j)]) rfl ?_
     refine run_nil ?_
     refine at_bn ?_
     refine at_tn ?_
     refine at_region ?_
     refine r_arith (r := ((i + 1 : Nat) : Int)) rfl rfl rfl rfl (congrArg some (wi (by omega) (by omega) (by omega))) ?_
     refine r_move rfl rfl rfl ?_
     refine run_nil ?_
     refine at_tn ?_
     exact nextL ⟨i + 1, hlt⟩ (by simp only []; omega) ⟨rfl, rfl, rfl, (look_val rfl (by rw [hd2]; rfl)), rfl, rfl, trivial⟩ (Weak.refl _)
    ·
     obtain ⟨hd1, hd2⟩ := sub_pos (m := m) (n := n) (i := i) h (by have := of_decide_eq_false hb4; omega)
     refine at_know 13 (.int .i64 ((m - n) / B32 ^ i % B32 : Nat)) rfl (congrArg (Value.int .i64) (by omega)) ?_
     refine at_skip ?_
     refine at_tn ?_
     refine at_region ?_
     refine r_move rfl rfl rfl ?_
     refine r_move rfl rfl rfl ?_
     refine r_move rfl rfl rfl ?_
     refine r_conv (r := (((m - n) / B32 ^ i % B32 : Nat) : Int)) u2 u133 rfl rfl rfl ((c32 _ rfl).trans (by rw [Nat.mod_eq_of_lt (by omega)])) ?_
     refine r_indexAddr 2 (i) u131 ti133 rfl rfl rfl rfl rfl (by omega) (by omega) (NV_ne (by rw [row_length]; omega)) (by show 0 + Int.toNat _ * 1 = _; omega) ?_
     refine r_store1 rfl 2 (i) [_, _, ⟨some g2, 133, _, _, true⟩] (NV .u32 (row (digs B32 m).length (subT m n (i + 1)))) ti133 rfl rfl rfl rfl rfl rfl rfl rfl (by rw [NV_length, row_length]; omega) (by rw [NV_set, row_set (fun j _ => subT_step _ _ i j)]) rfl ?_
     refine run_nil ?_
     refine at_bn ?_
     refine at_tn ?_
     refine at_region ?_
     refine r_arith (r := ((i + 1 : Nat) : Int)) rfl rfl rfl rfl (congrArg some (wi (by omega) (by omega) (by omega))) ?_
     refine r_move rfl rfl rfl ?_
     refine run_nil ?_
     refine at_tn ?_
     exact nextL ⟨i + 1, hlt⟩ (by simp only []; omega) ⟨rfl, rfl, rfl, (look_val rfl (by rw [hd2]; rfl)), rfl, rfl, trivial⟩ (Weak.refl _)
   ·
    have hly : (digs B32 n).length ≤ i := (by have := of_decide_eq_false hb3; omega)
    refine at_know 13 (.int .i64 ((m / B32 ^ i % B32 : Nat) - (subB m n i : Nat) - (n / B32 ^ i % B32 : Nat))) rfl (congrArg (Value.int .i64) (by rw [digs_above hly]; omega)) ?_
    refine at_skip ?_
    refine at_tn ?_
    refine at_seq ?_
    refine at_region ?_
    refine r_assign rfl rfl rfl ?_
    refine run_nil ?_
    refine at_tn ?_
    refine at_seq ?_
    refine at_seq ?_
    refine at_region ?_
    refine r_move rfl rfl rfl ?_
    refine r_cmpInt rfl rfl rfl rfl rfl ?_
    refine run_nil ?_
    refine at_tn ?_
    refine at_cond rfl (fun hb4 => ?_) (fun hb4 => ?_)
    ·
     obtain ⟨hd1, hd2⟩ := sub_neg (m := m) (n := n) (i := i) h (by have := of_decide_eq_true hb4; omega)
     refine at_region ?_
     refine r_move rfl rfl rfl ?_
     refine r_arith (r := (((m - n) / B32 ^ i % B32 : Nat) : Int)) rfl rfl rfl rfl (congrArg some (wi (by omega) (by omega) (by omega))) ?_
     refine r_assign rfl rfl rfl ?_
     refine r_assign rfl rfl rfl ?_
     refine run_nil ?_
     refine at_tn ?_
     refine at_region ?_
     refine r_move rfl rfl rfl ?_
     refine r_move rfl rfl rfl ?_
     refine r_move rfl rfl rfl ?_
     refine r_conv (r := (((m - n) / B32 ^ i % B32 : Nat) : Int)) u2 u133 rfl rfl rfl ((c32 _ rfl).trans (by rw [Nat.mod_eq_of_lt (by omega)])) ?_
     refine r_indexAddr 2 (i) u131 ti133 rfl rfl rfl rfl rfl (by omega) (by omega) (NV_ne (by rw [row_length]; omega)) (by show 0 + Int.toNat _ * 1 = _; omega) ?_
     refine r_store1 rfl 2 (i) [_, _, ⟨some g2, 133, _, _, true⟩] (NV .u32 (row (digs B32 m).length (subT m n (i + 1)))) ti133 rfl rfl rfl rfl rfl rfl rfl rfl (by rw [NV_length, row_length]; omega) (by rw [NV_set, row_set (fun j _ => subT_step _ _ i j)]) rfl ?_
     refine run_nil ?_
     refine at_bn ?_
     refine at_tn ?_
     refine at_region ?_
     refine r_arith (r := ((i + 1 : Nat) : Int)) rfl rfl rfl rfl (congrArg some (wi (by omega) (by omega) (by omega))) ?_
     refine r_move rfl rfl rfl ?_
     refine run_nil ?_
     refine at_tn ?_
     exact nextL ⟨i + 1, hlt⟩ (by simp only []; omega) ⟨rfl, rfl, rfl, (look_val rfl (by rw [hd2]; rfl)), rfl, rfl, trivial⟩ (Weak.refl _)
    ·
     obtain ⟨hd1, hd2⟩ := sub_pos (m := m) (n := n) (i := i) h (by have := of_decide_eq_false hb4; omega)
     refine at_know 13 (.int .i64 ((m - n) / B32 ^ i % B32 : Nat)) rfl (congrArg (Value.int .i64) (by omega)) ?_
     refine at_skip ?_
     refine at_tn ?_
     refine at_region ?_
     refine r_move rfl rfl rfl ?_
     refine r_move rfl rfl rfl ?_
     refine r_move rfl rfl rfl ?_
     refine r_conv (r := (((m - n) / B32 ^ i % B32 : Nat) : Int)) u2 u133 rfl rfl rfl ((c32 _ rfl).trans (by rw [Nat.mod_eq_of_lt (by omega)])) ?_
     refine r_indexAddr 2 (i) u131 ti133 rfl rfl rfl rfl rfl (by omega) (by omega) (NV_ne (by rw [row_length]; omega)) (by show 0 + Int.toNat _ * 1 = _; omega) ?_
     refine r_store1 rfl 2 (i) [_, _, ⟨some g2, 133, _, _, true⟩] (NV .u32 (row (digs B32 m).length (subT m n (i + 1)))) ti133 rfl rfl rfl rfl rfl rfl rfl rfl (by rw [NV_length, row_length]; omega) (by rw [NV_set, row_set (fun j _ => subT_step _ _ i j)]) rfl ?_
     refine run_nil ?_
     refine at_bn ?_
     refine at_tn ?_
     refine at_region ?_
     refine r_arith (r := ((i + 1 : Nat) : Int)) rfl rfl rfl rfl (congrArg some (wi (by omega) (by omega) (by omega))) ?_
     refine r_move rfl rfl rfl ?_
     refine run_nil ?_
     refine at_tn ?_
     exact nextL ⟨i + 1, hlt⟩ (by simp only []; omega) ⟨rfl, rfl, rfl, (look_val rfl (by rw [hd2]; rfl)), rfl, rfl, trivial⟩ (Weak.refl _)
  ·
   have hge : i = (digs B32 m).length := (by have := of_decide_eq_false hb2; omega)
   subst hge
   refine at_exit ?_
   refine at_te ?_
   refine at_te ?_
   refine at_be ?_
   refine at_tn ?_
   refine at_seq ?_
   refine at_region ?_
   refine r_move rfl rfl rfl ?_
   refine r_scall0 [_] [2] rfl rfl rfl (c_nat_bytes (row (digs B32 m).length (subT m n (digs B32 m).length)) (row_lt fun j => subT_lt _ _ _ j) (by rw [row_length]; omega) (row_length _ _) ⟨some g2, _, _, Nat.le_refl _⟩) ⟨⟨_, rfl, le_share⟩, trivial⟩ rfl ?_
   refine r_assign rfl rfl rfl ?_
   refine run_nil ?_
   refine at_tn ?_
   refine at_ret ?_
   refine at_end1 rfl (res_tmp rfl) (fun w hL => ⟨?_, hL.below⟩)
   rw [subT_end h]
end Go.Proofs.YthnlafhnpphdhaaGreatDoor
set_option linter.unusedVariables false
namespace Go.Proofs.YthnlafhnpphdhaaGreatDoor
open Go Go.RowKit Go.Via
set_option maxRecDepth 20000 in
theorem c_integer_mul (m n : Nat) (hm : nb m ≤ 67108864) (hn : nb n ≤ 67108864) : PCall Tryz.prog 121 #[.string (mag m), .string (mag n)] (.string (mag (m * n))) := by
 have hdm := dig_len_le hm
 have hdn := dig_len_le hn
 refine ⟨by kernel_rfl, fun w => ?_⟩
 refine calls_at (args := [.string (mag m), .string (mag n)]) Tryz.func121 rfl (Nat.le_of_ble_eq_true rfl) (LRel.nil w) ?_
 show At w ⟨97, [(0, .string (mag m)), (1, .string (mag n))], []⟩ _
 refine at_seq ?_
 refine at_region ?_
 refine r_assign rfl rfl rfl ?_
 refine run_nil ?_
 refine at_tn ?_
 refine at_seq ?_
 refine at_seq ?_
 refine at_region ?_
 refine r_move rfl rfl rfl ?_
 refine r_move rfl rfl rfl ?_
 refine r_pcall [_, _] rfl rfl rfl (c_integer_words _ _) ?_
 refine r_move rfl rfl rfl ?_
 refine r_extract (vs := [_, _, _]) rfl rfl rfl rfl ?_
 refine r_extract (vs := [_, _, _]) rfl rfl rfl rfl ?_
 refine r_extract (vs := [_, _, _]) rfl rfl rfl rfl ?_
 refine r_assign rfl rfl rfl ?_
 refine r_assign rfl rfl rfl ?_
 refine r_assign rfl rfl rfl ?_
 refine run_nil ?_
 refine at_tn ?_
 refine at_seq ?_
 refine at_region ?_
 refine r_move rfl rfl rfl ?_
 refine run_nil ?_
 refine at_tn ?_
 refine at_cond rfl (fun hb0 => ?_) (fun hb0 => ?_)
 ·
  obtain ⟨hw1, hw2, hw3, hw4⟩ := words_T hb0
  refine at_know 5 (.int .u64 (m : Nat)) rfl (by rw [if_pos hw3]) ?_
  refine at_know 6 (.int .u64 (n : Nat)) rfl (by rw [if_pos hw4]) ?_
  refine at_seq ?_
  refine at_region ?_
  refine r_move rfl rfl rfl ?_
  refine r_move rfl rfl rfl ?_
  refine r_pcall [_, _] rfl rfl rfl (c_math_bits_Mul64 m n hw1 hw2) ?_
  refine r_move rfl rfl rfl ?_
  refine r_extract (vs := [_, _]) rfl rfl rfl rfl ?_
  refine r_extract (vs := [_, _]) rfl rfl rfl rfl ?_
  refine r_assign rfl rfl rfl ?_
  refine r_assign rfl rfl rfl ?_
  refine run_nil ?_
  refine at_tn ?_
  refine at_seq ?_
  refine at_region ?_
  refine r_move rfl rfl rfl ?_
  refine r_cmpInt rfl rfl rfl rfl rfl ?_
  refine run_nil ?_
  refine at_tn ?_
  refine at_cond rfl (fun hb1 => ?_) (fun hb1 => ?_)
  ·
   have hs := mul_small (m := m) (n := n) (eq_of_beq hb1)
   refine at_seq ?_
   refine at_region ?_
   refine r_move rfl rfl rfl ?_
   refine r_pcall [_] rfl rfl rfl (c_integer_magnitude _ (by omega)) ?_
   refine r_assign rfl rfl rfl ?_
   refine run_nil ?_
   refine at_tn ?_
   refine at_ret ?_
   refine at_tr ?_
   refine at_end1 rfl (res_tmp rfl) (fun w hL => ⟨?_, hL.below⟩)
   rw [hs]
  ·
   refine at_skip ?_
   refine at_tn ?_
   refine at_seq ?_
   refine at_region ?_
   refine r_move rfl rfl rfl ?_
   refine r_scall [_] [] rfl rfl rfl (c_integer_digits m (by omega)) trivial rfl (.inr fun x b hb => by rw [List.mem_singleton.1 hb]) (fun g0 => ?_)
   refine r_move rfl rfl rfl ?_
   refine r_scall [_] [] rfl rfl rfl (c_integer_digits n (by omega)) trivial rfl (.inr fun x b hb => by rw [List.mem_singleton.1 hb]) (fun g1 => ?_)
   refine r_assign rfl rfl rfl ?_
   refine r_assign rfl rfl rfl ?_
   refine run_nil ?_
   refine at_tn ?_
   refine at_seq ?_
   refine at_region ?_
   refine r_move rfl rfl rfl ?_
   refine r_lenS u131 rfl rfl rfl ?_
   refine r_move rfl rfl rfl ?_
   refine r_lenS u131 rfl rfl rfl ?_
   refine r_arith (r := (((digs B32 m).length + (digs B32 n).length : Nat) : Int)) rfl rfl rfl rfl (congrArg some (wi (by omega) (by omega) (by omega))) ?_
   refine r_arith (r := ((((digs B32 m).length + (digs B32 n).length + 1) : Nat) : Int)) rfl rfl rfl rfl (congrArg some (wi (by omega) (by omega) (by omega))) ?_
   refine q_makeSlice (c := ((digs B32 m).length + (digs B32 n).length + 1)) (NV .u32 (row ((digs B32 m).length + (digs B32 n).length + 1) (mulR m n 0))) (fun g => [_, _, ⟨some g, 133, _, _, true⟩]) u131 el133 rfl rfl rfl rfl rfl rfl (by omega) (by rw [row_congr (g := fun _ => 0) (fun j _ => mulR_zero m n j), row_zero, NV_replicate]) (fun _ => rfl) (fun g2 => ?_)
   refine r_assign rfl rfl rfl ?_
   refine run_nil ?_
   refine at_tn ?_
   refine at_seq ?_
   refine at_seq ?_
   refine at_region ?_
   refine r_move rfl rfl rfl ?_
   refine r_lenS u131 rfl rfl rfl ?_
   refine r_move rfl rfl rfl ?_
   refine run_nil ?_
   refine at_tn ?_
   refine at_block ?_
   refine enterL (nt := 97) (ι := {i : Nat // i ≤ (digs B32 m).length}) (fun ⟨i, hi⟩ => [(11, slv (some g1) 0 (digs B32 n).length (digs B32 n).length), (12, slv (some g2) 0 ((digs B32 m).length + (digs B32 n).length + 1) ((digs B32 m).length + (digs B32 n).length + 1)), (46, slv (some g0) 0 (digs B32 m).length (digs B32 m).length), (47, .int .i64 ((digs B32 m).length : Nat)), (48, .int .i64 (i : Nat))]) (fun ⟨i, hi⟩ => [⟨some g0, 133, NV .u32 (digs B32 m), (digs B32 m).length, true⟩, ⟨some g1, 133, NV .u32 (digs B32 n), (digs B32 n).length, true⟩, ⟨some g2, 133, NV .u32 (row ((digs B32 m).length + (digs B32 n).length + 1) (mulR m n i)), ((digs B32 m).length + (digs B32 n).length + 1), true⟩]) (fun ⟨i, hi⟩ => (digs B32 m).length - i) ⟨0, Nat.zero_le _⟩ ⟨rfl, rfl, rfl, rfl, rfl, trivial⟩ (Weak.refl _) ?_
   rintro ⟨i, hi⟩
   show At _ ⟨97, [(11, slv (some g1) 0 (digs B32 n).length (digs B32 n).length), (12, slv (some g2) 0 ((digs B32 m).length + (digs B32 n).length + 1) ((digs B32 m).length + (digs B32 n).length + 1)), (46, slv (some g0) 0 (digs B32 m).length (digs B32 m).length), (47, .int .i64 ((digs B32 m).length : Nat)), (48, .int .i64 (i : Nat))], [⟨some g0, 133, NV .u32 (digs B32 m), (digs B32 m).length, true⟩, ⟨some g1, 133, NV .u32 (digs B32 n), (digs B32 n).length, true⟩, ⟨some g2, 133, NV .u32 (row ((digs B32 m).length + (digs B32 n).length + 1) (mulR m n i)), ((digs B32 m).length + (digs B32 n).length + 1), true⟩]⟩ _
   refine at_seq ?_
   refine at_region ?_
   refine r_cmpInt rfl rfl rfl rfl rfl ?_
   refine run_nil ?_
   refine at_tn ?_
   refine at_seq ?_
   refine at_cond rfl (fun hb3 => ?_) (fun hb3 => ?_)
   ·
    have hlt : i < (digs B32 m).length := (by have := of_decide_eq_true hb3; omega)
    refine at_skip ?_
    refine at_tn ?_
    refine at_seq ?_
    refine at_block ?_
    refine at_seq ?_
    refine at_region ?_
    refine r_move rfl rfl rfl ?_
    refine r_indexAddr 0 (i) u131 ti133 rfl rfl rfl rfl rfl (by omega) (by omega) (NV_ne (by omega)) (by show 0 + Int.toNat _ * 1 = _; omega) ?_
    refine r_load1 0 (i) ti133 rfl rfl rfl rfl (NV_get (digs_get B32_two hlt)) ?_
    refine r_assign rfl rfl rfl ?_
    refine r_assign rfl rfl rfl ?_
    refine run_nil ?_
    refine at_tn ?_
    refine at_seq ?_
    refine at_region ?_
    refine r_assign rfl rfl rfl ?_
    refine run_nil ?_
    refine at_tn ?_
    refine at_seq ?_
    refine at_seq ?_
    refine at_region ?_
    refine r_move rfl rfl rfl ?_
    refine r_lenS u131 rfl rfl rfl ?_
    refine r_move rfl rfl rfl ?_
    refine run_nil ?_
    refine at_tn ?_
    refine at_block ?_
    refine enterL (nt := 97) (ι := {k : Nat // k ≤ (digs B32 n).length}) (fun ⟨k, hk5⟩ => [(11, slv (some g1) 0 (digs B32 n).length (digs B32 n).length), (12, slv (some g2) 0 ((digs B32 m).length + (digs B32 n).length + 1) ((digs B32 m).length + (digs B32 n).length + 1)), (46, slv (some g0) 0 (digs B32 m).length (digs B32 m).length), (47, .int .i64 ((digs B32 m).length : Nat)), (48, .int .i64 (i : Nat)), (13, .int .i64 (i : Nat)), (14, .int .u32 (m / B32 ^ i % B32 : Nat)), (15, .int .u64 (mulC m n i k : Nat)), (54, .int .i64 ((digs B32 n).length : Nat)), (55, .int .i64 (k : Nat))]) (fun ⟨k, hk5⟩ => [⟨some g0, 133, NV .u32 (digs B32 m), (digs B32 m).length, true⟩, ⟨some g1, 133, NV .u32 (digs B32 n), (digs B32 n).length, true⟩, ⟨some g2, 133, NV .u32 (row ((digs B32 m).length + (digs B32 n).length + 1) (mulT m n i k)), ((digs B32 m).length + (digs B32 n).length + 1), true⟩]) (fun ⟨k, hk5⟩ => (digs B32 n).length - k) ⟨0, Nat.zero_le _⟩ ⟨rfl, rfl, rfl, rfl, rfl, rfl, rfl, (look_val rfl (by rw [mulC_zero]; rfl)), rfl, rfl, trivial⟩ (weak_eq (by rw [row_congr (fun j _ => (mulT_zero m n i j).symm)])) ?_
    rintro ⟨k, hk5⟩
    show At _ ⟨97, [(11, slv (some g1) 0 (digs B32 n).length (digs B32 n).length), (12, slv (some g2) 0 ((digs B32 m).length + (digs B32 n).length + 1) ((digs B32 m).length + (digs B32 n).length + 1)), (46, slv (some g0) 0 (digs B32 m).length (digs B32 m).length), (47, .int .i64 ((digs B32 m).length : Nat)), (48, .int .i64 (i : Nat)), (13, .int .i64 (i : Nat)), (14, .int .u32 (m / B32 ^ i % B32 : Nat)), (15, .int .u64 (mulC m n i k : Nat)), (54, .int .i64 ((digs B32 n).length : Nat)), (55, .int .i64 (k : Nat))], [⟨some g0, 133, NV .u32 (digs B32 m), (digs B32 m).length, true⟩, ⟨some g1, 133, NV .u32 (digs B32 n), (digs B32 n).length, true⟩, ⟨some g2, 133, NV .u32 (row ((digs B32 m).length + (digs B32 n).length + 1) (mulT m n i k)), ((digs B32 m).length + (digs B32 n).length + 1), true⟩]⟩ _
    refine at_seq ?_
    refine at_region ?_
    refine r_cmpInt rfl rfl rfl rfl rfl ?_
    refine run_nil ?_
    refine at_tn ?_
    refine at_seq ?_
    refine at_cond rfl (fun hb5 => ?_) (fun hb5 => ?_)
    ·
     have hk : k < (digs B32 n).length := (by have := of_decide_eq_true hb5; omega)
     have hc1 := mulC_lt m n i k
     have hs1 := mulS_lt m n i k
     have hv1 := B32_mod (mulV m n i / B32 ^ (i + k))
     have hx1 := B32_mod (m / B32 ^ i)
     have hy1 := B32_mod (n / B32 ^ k)
     have hd1 := dmul_le (m / B32 ^ i) (n / B32 ^ k)
     have hc2 : mulC m n i k < 4294967296 := hc1
     refine at_skip ?_
     refine at_tn ?_
     refine at_seq ?_
     refine at_block ?_
     refine at_seq ?_
     refine at_region ?_
     refine r_move rfl rfl rfl ?_
     refine r_assign rfl rfl rfl ?_
     refine run_nil ?_
     refine at_tn ?_
     refine at_seq ?_
     refine at_drawn (l' := [⟨_,_,_,_,_,_⟩, ⟨_,_,_,_,_,_⟩, ⟨_,_,_,_,_,_⟩, ⟨_,_,_,_,_,_⟩, ⟨_,_,_,_,_,_⟩, ⟨_,_,_,_,_,_⟩, ⟨_,_,_,_,_,_⟩, ⟨_,_,_,_,_,_⟩, ⟨_,_,_,_,_,_⟩, ⟨_,_,_,_,_,_⟩, ⟨_,_,_,_,_,_⟩, ⟨_,_,_,_,_,_⟩, ⟨_,_,_,_,_,_⟩, ⟨_,_,_,_,_,_⟩, ⟨_,_,_,_,_,_⟩, ⟨_,_,_,_,_,_⟩, ⟨_,_,_,_,_,_⟩, ⟨_,_,_,_,_,_⟩, ⟨_,_,_,_,_,_⟩]) [] [0, 1, 2, 3, 4, 5, 6, 7, 8, 9, 10, 11, 12, 13, 14, 15, 16, 17, 18] mixed (by kernel_rfl) rfl (by kernel_rfl) ?_
     refine r_move rfl rfl rfl ?_
     refine r_move rfl rfl rfl ?_
     refine r_move rfl rfl rfl ?_
     refine r_move rfl rfl rfl ?_
     refine r_arith (r := ((i + k : Nat) : Int)) rfl rfl rfl rfl (congrArg some (wi (by omega) (by omega) (by omega))) ?_
     refine r_indexAddr 2 (i + k) u131 ti133 rfl rfl rfl rfl rfl (by omega) (by omega) (NV_ne (by rw [row_length]; omega)) (by show 0 + Int.toNat _ * 1 = _; omega) ?_
     refine r_load1 2 (i + k) ti133 rfl rfl rfl rfl (NV_get ((row_get (by omega)).trans (by rw [mulT_at]))) ?_
     refine r_conv (r := ((mulV m n i / B32 ^ (i + k) % B32 : Nat) : Int)) u133 u109 rfl rfl rfl (c64 _ rfl (by omega)) ?_
     refine r_move rfl rfl rfl ?_
     refine r_conv (r := ((m / B32 ^ i % B32 : Nat) : Int)) u133 u109 rfl rfl rfl (c64 _ rfl (by omega)) ?_
     refine r_move rfl rfl rfl ?_
     refine r_move rfl rfl rfl ?_
     refine r_indexAddr 1 (k) u131 ti133 rfl rfl rfl rfl rfl (by omega) (by omega) (NV_ne (by omega)) (by show 0 + Int.toNat _ * 1 = _; omega) ?_
     refine r_load1 1 (k) ti133 rfl rfl rfl rfl (NV_get (digs_get B32_two hk)) ?_
     refine r_conv (r := ((n / B32 ^ k % B32 : Nat) : Int)) u133 u109 rfl rfl rfl (c64 _ rfl (by omega)) ?_
     refine r_arith (r := ((m / B32 ^ i % B32 * (n / B32 ^ k % B32) : Nat) : Int)) rfl rfl rfl rfl (congrArg some (c64 _ (Int.natCast_mul _ _).symm (by omega))) ?_
     refine r_arith (r := ((mulV m n i / B32 ^ (i + k) % B32 + m / B32 ^ i % B32 * (n / B32 ^ k % B32) : Nat) : Int)) rfl rfl rfl rfl (congrArg some (c64 _ (by rw [Int.natCast_add]) (mulS_lt1 m n i k))) ?_
     refine r_arith (r := ((mulS m n i k : Nat) : Int)) rfl rfl rfl rfl (congrArg some (c64 _ (mulS_cast m n i k) (mulS_lt m n i k))) ?_
     refine r_assign rfl rfl rfl ?_
     refine run_nil ?_
     refine at_tn ?_
     refine at_region ?_
     refine r_move rfl rfl rfl ?_
     refine r_move rfl rfl rfl ?_
     refine r_move rfl rfl rfl ?_
     refine r_arith (r := ((i + k : Nat) : Int)) rfl rfl rfl rfl (congrArg some (wi (by omega) (by omega) (by omega))) ?_
     refine r_move rfl rfl rfl ?_
     refine r_conv (r := ((mulS m n i k % 4294967296 : Nat) : Int)) u109 u133 rfl rfl rfl (c32 _ rfl) ?_
     refine r_move rfl rfl rfl ?_
     refine r_shift (r := ((mulC m n i (k + 1) : Nat) : Int)) rfl rfl rfl rfl (by omega) (congrArg some ((shr_u _ 32 rfl rfl (by omega)).trans (by rw [mulS_carry]))) ?_
     refine r_indexAddr 2 (i + k) u131 ti133 rfl rfl rfl rfl rfl (by omega) (by omega) (NV_ne (by rw [row_length]; omega)) (by show 0 + Int.toNat _ * 1 = _; omega) ?_
     refine r_store1 rfl 2 (i + k) [_, _, ⟨some g2, 133, _, _, true⟩] (NV .u32 (row ((digs B32 m).length + (digs B32 n).length + 1) (mulT m n i (k + 1)))) ti133 rfl rfl rfl rfl rfl rfl rfl rfl (by rw [NV_length, row_length]; omega) (by rw [NV_set, row_set (fun j _ => mulT_step m n i k j)]) rfl ?_
     refine r_assign rfl rfl rfl ?_
     refine run_nil ?_
     refine at_bn ?_
     refine at_tn ?_
     refine at_region ?_
     refine r_arith (r := ((k + 1 : Nat) : Int)) rfl rfl rfl rfl (congrArg some (wi (by omega) (by omega) (by omega))) ?_
     refine r_move rfl rfl rfl ?_
     refine run_nil ?_
     refine at_tn ?_
     exact nextL ⟨k + 1, hk⟩ (by simp only []; omega) ⟨rfl, rfl, rfl, rfl, rfl, rfl, rfl, rfl, rfl, rfl, trivial⟩ (Weak.refl _)
    ·
     have hk4 : k = (digs B32 n).length := (by have := of_decide_eq_false hb5; omega)
     subst hk4
     refine at_exit ?_
     refine at_te ?_
     refine at_te ?_
     refine at_be ?_
     refine at_tn ?_
     refine at_region ?_
     refine r_move rfl rfl rfl ?_
     refine r_move rfl rfl rfl ?_
     refine r_move rfl rfl rfl ?_
     refine r_lenS u131 rfl rfl rfl ?_
     refine r_arith (r := ((i + (digs B32 n).length : Nat) : Int)) rfl rfl rfl rfl (congrArg some (wi (by omega) (by omega) (by omega))) ?_
     refine r_move rfl rfl rfl ?_
     refine r_conv (r := ((mulC m n i (digs B32 n).length % 4294967296 : Nat) : Int)) u109 u133 rfl rfl rfl (c32 _ rfl) ?_
     refine r_indexAddr 2 (i + (digs B32 n).length) u131 ti133 rfl rfl rfl rfl rfl (by omega) (by omega) (NV_ne (by rw [row_length]; omega)) (by show 0 + Int.toNat _ * 1 = _; omega) ?_
     refine r_store1 rfl 2 (i + (digs B32 n).length) [_, _, ⟨some g2, 133, _, _, true⟩] (NV .u32 (row ((digs B32 m).length + (digs B32 n).length + 1) (mulR m n (i + 1)))) ti133 rfl rfl rfl rfl rfl rfl rfl rfl (by rw [NV_length, row_length]; omega) (by rw [NV_set, row_set (fun j _ => mulT_last m n i j)]) rfl ?_
     refine run_nil ?_
     refine at_bn ?_
     refine at_tn ?_
     refine at_region ?_
     refine r_arith (r := ((i + 1 : Nat) : Int)) rfl rfl rfl rfl (congrArg some (wi (by omega) (by omega) (by omega))) ?_
     refine r_move rfl rfl rfl ?_
     refine run_nil ?_
     refine at_tn ?_
     exact nextL ⟨i + 1, hlt⟩ (by simp only []; omega) ⟨rfl, rfl, rfl, rfl, rfl, trivial⟩ (Weak.refl _)
   ·
    have hge : i = (digs B32 m).length := (by have := of_decide_eq_false hb3; omega)
    subst hge
    refine at_exit ?_
    refine at_te ?_
    refine at_te ?_
    refine at_be ?_
    refine at_tn ?_
    refine at_seq ?_
    refine at_region ?_
    refine r_move rfl rfl rfl ?_
    refine r_scall0 [_] [2] rfl rfl rfl (c_nat_bytes (row ((digs B32 m).length + (digs B32 n).length + 1) (mulR m n (digs B32 m).length)) (row_lt fun j => mulR_lt _ _ _ j) (by rw [row_length]; omega) (row_length _ _) ⟨some g2, _, _, Nat.le_refl _⟩) ⟨⟨_, rfl, le_share⟩, trivial⟩ rfl ?_
    refine r_assign rfl rfl rfl ?_
    refine run_nil ?_
    refine at_tn ?_
    refine at_ret ?_
    refine at_end1 rfl (res_tmp rfl) (fun w hL => ⟨?_, hL.below⟩)
    rw [mulR_end]
 ·
  refine at_skip ?_
  refine at_tn ?_
  refine at_seq ?_
  refine at_region ?_
  refine r_move rfl rfl rfl ?_
  refine r_scall [_] [] rfl rfl rfl (c_integer_digits m (by omega)) trivial rfl (.inr fun x b hb => by rw [List.mem_singleton.1 hb]) (fun g0 => ?_)
  refine r_move rfl rfl rfl ?_
  refine r_scall [_] [] rfl rfl rfl (c_integer_digits n (by omega)) trivial rfl (.inr fun x b hb => by rw [List.mem_singleton.1 hb]) (fun g1 => ?_)
  refine r_assign rfl rfl rfl ?_
  refine r_assign rfl rfl rfl ?_
  refine run_nil ?_
  refine at_tn ?_
  refine at_seq ?_
  refine at_region ?_
  refine r_move rfl rfl rfl ?_
  refine r_lenS u131 rfl rfl rfl ?_
  refine r_move rfl rfl rfl ?_
  refine r_lenS u131 rfl rfl rfl ?_
  refine r_arith (r := (((digs B32 m).length + (digs B32 n).length : Nat) : Int)) rfl rfl rfl rfl (congrArg some (wi (by omega) (by omega) (by omega))) ?_
  refine r_arith (r := ((((digs B32 m).length + (digs B32 n).length + 1) : Nat) : Int)) rfl rfl rfl rfl (congrArg some (wi (by omega) (by omega) (by omega))) ?_
  refine q_makeSlice (c := ((digs B32 m).length + (digs B32 n).length + 1)) (NV .u32 (row ((digs B32 m).length + (digs B32 n).length + 1) (mulR m n 0))) (fun g => [_, _, ⟨some g, 133, _, _, true⟩]) u131 el133 rfl rfl rfl rfl rfl rfl (by omega) (by rw [row_congr (g := fun _ => 0) (fun j _ => mulR_zero m n j), row_zero, NV_replicate]) (fun _ => rfl) (fun g2 => ?_)
  refine r_assign rfl rfl rfl ?_
  refine run_nil ?_
  refine at_tn ?_
  refine at_seq ?_
  refine at_seq ?_
  refine at_region ?_
  refine r_move rfl rfl rfl ?_
  refine r_lenS u131 rfl rfl rfl ?_
  refine r_move rfl rfl rfl ?_
  refine run_nil ?_
  refine at_tn ?_
  refine at_block ?_
  refine enterL (nt := 97) (ι := {i : Nat // i ≤ (digs B32 m).length}) (fun ⟨i, hi⟩ => [(11, slv (some g1) 0 (digs B32 n).length (digs B32 n).length), (12, slv (some g2) 0 ((digs B32 m).length + (digs B32 n).length + 1) ((digs B32 m).length + (digs B32 n).length + 1)), (46, slv (some g0) 0 (digs B32 m).length (digs B32 m).length), (47, .int .i64 ((digs B32 m).length : Nat)), (48, .int .i64 (i : Nat))]) (fun ⟨i, hi⟩ => [⟨some g0, 133, NV .u32 (digs B32 m), (digs B32 m).length, true⟩, ⟨some g1, 133, NV .u32 (digs B32 n), (digs B32 n).length, true⟩, ⟨some g2, 133, NV .u32 (row ((digs B32 m).length + (digs B32 n).length + 1) (mulR m n i)), ((digs B32 m).length + (digs B32 n).length + 1), true⟩]) (fun ⟨i, hi⟩ => (digs B32 m).length - i) ⟨0, Nat.zero_le _⟩ ⟨rfl, rfl, rfl, rfl, rfl, trivial⟩ (Weak.refl _) ?_
  rintro ⟨i, hi⟩
  show At _ ⟨97, [(11, slv (some g1) 0 (digs B32 n).length (digs B32 n).length), (12, slv (some g2) 0 ((digs B32 m).length + (digs B32 n).length + 1) ((digs B32 m).length + (digs B32 n).length + 1)), (46, slv (some g0) 0 (digs B32 m).length (digs B32 m).length), (47, .int .i64 ((digs B32 m).length : Nat)), (48, .int .i64 (i : Nat))], [⟨some g0, 133, NV .u32 (digs B32 m), (digs B32 m).length, true⟩, ⟨some g1, 133, NV .u32 (digs B32 n), (digs B32 n).length, true⟩, ⟨some g2, 133, NV .u32 (row ((digs B32 m).length + (digs B32 n).length + 1) (mulR m n i)), ((digs B32 m).length + (digs B32 n).length + 1), true⟩]⟩ _
  refine at_seq ?_
  refine at_region ?_
  refine r_cmpInt rfl rfl rfl rfl rfl ?_
  refine run_nil ?_
  refine at_tn ?_
  refine at_seq ?_
  refine at_cond rfl (fun hb2 => ?_) (fun hb2 => ?_)
  ·
   have hlt : i < (digs B32 m).length := (by have := of_decide_eq_true hb2; omega)
   refine at_skip ?_
   refine at_tn ?_
   refine at_seq ?_
   refine at_block ?_
   refine at_seq ?_
   refine at_region ?_
   refine r_move rfl rfl rfl ?_
   refine r_indexAddr 0 (i) u131 ti133 rfl rfl rfl rfl rfl (by omega) (by omega) (NV_ne (by omega)) (by show 0 + Int.toNat _ * 1 = _; omega) ?_
   refine r_load1 0 (i) ti133 rfl rfl rfl rfl (NV_get (digs_get B32_two hlt)) ?_
   refine r_assign rfl rfl rfl ?_
   refine r_assign rfl rfl rfl ?_
   refine run_nil ?_
   refine at_tn ?_
   refine at_seq ?_
   refine at_region ?_
   refine r_assign rfl rfl rfl ?_
   refine run_nil ?_
   refine at_tn ?_
   refine at_seq ?_
   refine at_seq ?_
   refine at_region ?_
   refine r_move rfl rfl rfl ?_
   refine r_lenS u131 rfl rfl rfl ?_
   refine r_move rfl rfl rfl ?_
   refine run_nil ?_
   refine at_tn ?_
   refine at_block ?_
   refine enterL (nt := 97) (ι := {k : Nat // k ≤ (digs B32 n).length}) (fun ⟨k, hk5⟩ => [(11, slv (some g1) 0 (digs B32 n).length (digs B32 n).length), (12, slv (some g2) 0 ((digs B32 m).length + (digs B32 n).length + 1) ((digs B32 m).length + (digs B32 n).length + 1)), (46, slv (some g0) 0 (digs B32 m).length (digs B32 m).length), (47, .int .i64 ((digs B32 m).length : Nat)), (48, .int .i64 (i : Nat)), (13, .int .i64 (i : Nat)), (14, .int .u32 (m / B32 ^ i % B32 : Nat)), (15, .int .u64 (mulC m n i k : Nat)), (54, .int .i64 ((digs B32 n).length : Nat)), (55, .int .i64 (k : Nat))]) (fun ⟨k, hk5⟩ => [⟨some g0, 133, NV .u32 (digs B32 m), (digs B32 m).length, true⟩, ⟨some g1, 133, NV .u32 (digs B32 n), (digs B32 n).length, true⟩, ⟨some g2, 133, NV .u32 (row ((digs B32 m).length + (digs B32 n).length + 1) (mulT m n i k)), ((digs B32 m).length + (digs B32 n).length + 1), true⟩]) (fun ⟨k, hk5⟩ => (digs B32 n).length - k) ⟨0, Nat.zero_le _⟩ ⟨rfl, rfl, rfl, rfl, rfl, rfl, rfl, (look_val rfl (by rw [mulC_zero]; rfl)), rfl, rfl, trivial⟩ (weak_eq (by rw [row_congr (fun j _ => (mulT_zero m n i j).symm)])) ?_
   rintro ⟨k, hk5⟩
   show At _ ⟨97, [(11, slv (some g1) 0 (digs B32 n).length (digs B32 n).length), (12, slv (some g2) 0 ((digs B32 m).length + (digs B32 n).length + 1) ((digs B32 m).length + (digs B32 n).length + 1)), (46, slv (some g0) 0 (digs B32 m).length (digs B32 m).length), (47, .int .i64 ((digs B32 m).length : Nat)), (48, .int .i64 (i : Nat)), (13, .int .i64 (i : Nat)), (14, .int .u32 (m / B32 ^ i % B32 : Nat)), (15, .int .u64 (mulC m n i k : Nat)), (54, .int .i64 ((digs B32 n).length : Nat)), (55, .int .i64 (k : Nat))], [⟨some g0, 133, NV .u32 (digs B32 m), (digs B32 m).length, true⟩, ⟨some g1, 133, NV .u32 (digs B32 n), (digs B32 n).length, true⟩, ⟨some g2, 133, NV .u32 (row ((digs B32 m).length + (digs B32 n).length + 1) (mulT m n i k)), ((digs B32 m).length + (digs B32 n).length + 1), true⟩]⟩ _
   refine at_seq ?_
   refine at_region ?_
   refine r_cmpInt rfl rfl rfl rfl rfl ?_
   refine run_nil ?_
   refine at_tn ?_
   refine at_seq ?_
   refine at_cond rfl (fun hb4 => ?_) (fun hb4 => ?_)
   ·
    have hk : k < (digs B32 n).length := (by have := of_decide_eq_true hb4; omega)
    have hc1 := mulC_lt m n i k
    have hs1 := mulS_lt m n i k
    have hv1 := B32_mod (mulV m n i / B32 ^ (i + k))
    have hx1 := B32_mod (m / B32 ^ i)
    have hy1 := B32_mod (n / B32 ^ k)
    have hd1 := dmul_le (m / B32 ^ i) (n / B32 ^ k)
    have hc2 : mulC m n i k < 4294967296 := hc1
    refine at_skip ?_
    refine at_tn ?_
    refine at_seq ?_
    refine at_block ?_
    refine at_seq ?_
    refine at_region ?_
    refine r_move rfl rfl rfl ?_
    refine r_assign rfl rfl rfl ?_
    refine run_nil ?_
    refine at_tn ?_
    refine at_seq ?_
    refine at_drawn (l' := [⟨_,_,_,_,_,_⟩, ⟨_,_,_,_,_,_⟩, ⟨_,_,_,_,_,_⟩, ⟨_,_,_,_,_,_⟩, ⟨_,_,_,_,_,_⟩, ⟨_,_,_,_,_,_⟩, ⟨_,_,_,_,_,_⟩, ⟨_,_,_,_,_,_⟩, ⟨_,_,_,_,_,_⟩, ⟨_,_,_,_,_,_⟩, ⟨_,_,_,_,_,_⟩, ⟨_,_,_,_,_,_⟩, ⟨_,_,_,_,_,_⟩, ⟨_,_,_,_,_,_⟩, ⟨_,_,_,_,_,_⟩, ⟨_,_,_,_,_,_⟩, ⟨_,_,_,_,_,_⟩, ⟨_,_,_,_,_,_⟩, ⟨_,_,_,_,_,_⟩]) [] [0, 1, 2, 3, 4, 5, 6, 7, 8, 9, 10, 11, 12, 13, 14, 15, 16, 17, 18] mixed (by kernel_rfl) rfl (by kernel_rfl) ?_
    refine r_move rfl rfl rfl ?_
    refine r_move rfl rfl rfl ?_
    refine r_move rfl rfl rfl ?_
    refine r_move rfl rfl rfl ?_
    refine r_arith (r := ((i + k : Nat) : Int)) rfl rfl rfl rfl (congrArg some (wi (by omega) (by omega) (by omega))) ?_
    refine r_indexAddr 2 (i + k) u131 ti133 rfl rfl rfl rfl rfl (by omega) (by omega) (NV_ne (by rw [row_length]; omega)) (by show 0 + Int.toNat _ * 1 = _; omega) ?_
    refine r_load1 2 (i + k) ti133 rfl rfl rfl rfl (NV_get ((row_get (by omega)).trans (by rw [mulT_at]))) ?_
    refine r_conv (r := ((mulV m n i / B32 ^ (i + k) % B32 : Nat) : Int)) u133 u109 rfl rfl rfl (c64 _ rfl (by omega)) ?_
    refine r_move rfl rfl rfl ?_
    refine r_conv (r := ((m / B32 ^ i % B32 : Nat) : Int)) u133 u109 rfl rfl rfl (c64 _ rfl (by omega)) ?_
    refine r_move rfl rfl rfl ?_
    refine r_move rfl rfl rfl ?_
    refine r_indexAddr 1 (k) u131 ti133 rfl rfl rfl rfl rfl (by omega) (by omega) (NV_ne (by omega)) (by show 0 + Int.toNat _ * 1 = _; omega) ?_
    refine r_load1 1 (k) ti133 rfl rfl rfl rfl (NV_get (digs_get B32_two hk)) ?_
    refine r_conv (r := ((n / B32 ^ k % B32 : Nat) : Int)) u133 u109 rfl rfl rfl (c64 _ rfl (by omega)) ?_
    refine r_arith (r := ((m / B32 ^ i % B32 * (n / B32 ^ k % B32) : Nat) : Int)) rfl rfl rfl rfl (congrArg some (c64 _ (Int.natCast_mul _ _).symm (by omega))) ?_
    refine r_arith (r := ((mulV m n i / B32 ^ (i + k) % B32 + m / B32 ^ i % B32 * (n / B32 ^ k % B32) : Nat) : Int)) rfl rfl rfl rfl (congrArg some (c64 _ (by rw [Int.natCast_add]) (mulS_lt1 m n i k))) ?_
    refine r_arith (r := ((mulS m n i k : Nat) : Int)) rfl rfl rfl rfl (congrArg some (c64 _ (mulS_cast m n i k) (mulS_lt m n i k))) ?_
    refine r_assign rfl rfl rfl ?_
    refine run_nil ?_
    refine at_tn ?_
    refine at_region ?_
    refine r_move rfl rfl rfl ?_
    refine r_move rfl rfl rfl ?_
    refine r_move rfl rfl rfl ?_
    refine r_arith (r := ((i + k : Nat) : Int)) rfl rfl rfl rfl (congrArg some (wi (by omega) (by omega) (by omega))) ?_
    refine r_move rfl rfl rfl ?_
    refine r_conv (r := ((mulS m n i k % 4294967296 : Nat) : Int)) u109 u133 rfl rfl rfl (c32 _ rfl) ?_
    refine r_move rfl rfl rfl ?_
    refine r_shift (r := ((mulC m n i (k + 1) : Nat) : Int)) rfl rfl rfl rfl (by omega) (congrArg some ((shr_u _ 32 rfl rfl (by omega)).trans (by rw [mulS_carry]))) ?_
    refine r_indexAddr 2 (i + k) u131 ti133 rfl rfl rfl rfl rfl (by omega) (by omega) (NV_ne (by rw [row_length]; omega)) (by show 0 + Int.toNat _ * 1 = _; omega) ?_
    refine r_store1 rfl 2 (i + k) [_, _, ⟨some g2, 133, _, _, true⟩] (NV .u32 (row ((digs B32 m).length + (digs B32 n).length + 1) (mulT m n i (k + 1)))) ti133 rfl rfl rfl rfl rfl rfl rfl rfl (by rw [NV_length, row_length]; omega) (by rw [NV_set, row_set (fun j _ => mulT_step m n i k j)]) rfl ?_
    refine r_assign rfl rfl rfl ?_
    refine run_nil ?_
    refine at_bn ?_
    refine at_tn ?_
    refine at_region ?_
    refine r_arith (r := ((k + 1 : Nat) : Int)) rfl rfl rfl rfl (congrArg some (wi (by omega) (by omega) (by omega))) ?_
    refine r_move rfl rfl rfl ?_
    refine run_nil ?_
    refine at_tn ?_
    exact nextL ⟨k + 1, hk⟩ (by simp only []; omega) ⟨rfl, rfl, rfl, rfl, rfl, rfl, rfl, rfl, rfl, rfl, trivial⟩ (Weak.refl _)
   ·
    have hk4 : k = (digs B32 n).length := (by have := of_decide_eq_false hb4; omega)
    subst hk4
    refine at_exit ?_
    refine at_te ?_
    refine at_te ?_
    refine at_be ?_
    refine at_tn ?_
    refine at_region ?_
    refine r_move rfl rfl rfl ?_
    refine r_move rfl rfl rfl ?_
    refine r_move rfl rfl rfl ?_
    refine r_lenS u131 rfl rfl rfl ?_
    refine r_arith (r := ((i + (digs B32 n).length : Nat) : Int)) rfl rfl rfl rfl (congrArg some (wi (by omega) (by omega) (by omega))) ?_
    refine r_move rfl rfl rfl ?_
    refine r_conv (r := ((mulC m n i (digs B32 n).length % 4294967296 : Nat) : Int)) u109 u133 rfl rfl rfl (c32 _ rfl) ?_
    refine r_indexAddr 2 (i + (digs B32 n).length) u131 ti133 rfl rfl rfl rfl rfl (by omega) (by omega) (NV_ne (by rw [row_length]; omega)) (by show 0 + Int.toNat _ * 1 = _; omega) ?_
    refine r_store1 rfl 2 (i + (digs B32 n).length) [_, _, ⟨some g2, 133, _, _, true⟩] (NV .u32 (row ((digs B32 m).length + (digs B32 n).length + 1) (mulR m n (i + 1)))) ti133 rfl rfl rfl rfl rfl rfl rfl rfl (by rw [NV_length, row_length]; omega) (by rw [NV_set, row_set (fun j _ => mulT_last m n i j)]) rfl ?_
    refine run_nil ?_
    refine at_bn ?_
    refine at_tn ?_
    refine at_region ?_
    refine r_arith (r := ((i + 1 : Nat) : Int)) rfl rfl rfl rfl (congrArg some (wi (by omega) (by omega) (by omega))) ?_
    refine r_move rfl rfl rfl ?_
    refine run_nil ?_
    refine at_tn ?_
    exact nextL ⟨i + 1, hlt⟩ (by simp only []; omega) ⟨rfl, rfl, rfl, rfl, rfl, trivial⟩ (Weak.refl _)
  ·
   have hge : i = (digs B32 m).length := (by have := of_decide_eq_false hb2; omega)
   subst hge
   refine at_exit ?_
   refine at_te ?_
   refine at_te ?_
   refine at_be ?_
   refine at_tn ?_
   refine at_seq ?_
   refine at_region ?_
   refine r_move rfl rfl rfl ?_
   refine r_scall0 [_] [2] rfl rfl rfl (c_nat_bytes (row ((digs B32 m).length + (digs B32 n).length + 1) (mulR m n (digs B32 m).length)) (row_lt fun j => mulR_lt _ _ _ j) (by rw [row_length]; omega) (row_length _ _) ⟨some g2, _, _, Nat.le_refl _⟩) ⟨⟨_, rfl, le_share⟩, trivial⟩ rfl ?_
   refine r_assign rfl rfl rfl ?_
   refine run_nil ?_
   refine at_tn ?_
   refine at_ret ?_
   refine at_end1 rfl (res_tmp rfl) (fun w hL => ⟨?_, hL.below⟩)
   rw [mulR_end]
end Go.Proofs.YthnlafhnpphdhaaGreatDoor
set_option linter.unusedVariables false
namespace Go.Via
open Go
theorem toInt_big {z : Int} (h : (!decide (nb z.natAbs ≤ 8)) = true) : (if -9223372036854775808 ≤ z ∧ z ≤ 9223372036854775807 then z else 0) = 0 ∧ decide (-9223372036854775808 ≤ z ∧ z ≤ 9223372036854775807) = false := by
  have h1 : ¬ nb z.natAbs ≤ 8 := by simpa using h
  have h2 : ¬ (-9223372036854775808 ≤ z ∧ z ≤ 9223372036854775807) := fun c => h1 (nb_le (by omega))
  exact ⟨if_neg h2, decide_eq_false h2⟩
theorem toInt_yes {z : Int} (h : -9223372036854775808 ≤ z ∧ z ≤ 9223372036854775807) : (if -9223372036854775808 ≤ z ∧ z ≤ 9223372036854775807 then z else 0) = z ∧ decide (-9223372036854775808 ≤ z ∧ z ≤ 9223372036854775807) = true := ⟨if_pos h, decide_eq_true h⟩
theorem toInt_no {z : Int} (h : ¬ (-9223372036854775808 ≤ z ∧ z ≤ 9223372036854775807)) : (if -9223372036854775808 ≤ z ∧ z ≤ 9223372036854775807 then z else 0) = 0 ∧ decide (-9223372036854775808 ≤ z ∧ z ≤ 9223372036854775807) = false := ⟨if_neg h, decide_eq_false h⟩
theorem nb8 {z : Int} (h : (!decide (nb z.natAbs ≤ 8)) = false) : nb z.natAbs ≤ 8 := by simpa using h
def badI (b : Bool) (s : ByteArray) : Bool := (s == ⟨#[]⟩ && b) || s.data.toList.head? == some 0
theorem ba_nil {s : ByteArray} (h : (s == ⟨#[]⟩) = true) : s = ⟨#[]⟩ := by rw [beq_ba] at h; simpa using h
theorem gcd_step (a b : Nat) : Nat.gcd b (a % b) = Nat.gcd a b := by rw [Nat.gcd_comm a b, Nat.gcd_rec b a, Nat.gcd_comm]
end Go.Via
namespace Go.Via
open Go
theorem of_bne_f {a b : Int} (h : (a != b) = false) : a = b := by simpa using h
theorem gcd_fin {x g : Nat} (h : x = g) : (if false = true then -(x : Int) else (x : Int)) = (g : Int) := by subst h; rfl
end Go.Via
namespace Go.Via
open Go
end Go.Via
set_option linter.unusedVariables false
namespace Go.Proofs.YthnlafhnpphdhaaGreatDoor
open Go Go.RowKit Go.Via
set_option maxRecDepth 20000 in
theorem c_integer_Gcd (a b : Int) (ha : szI a ≤ 67108864) (hb : szI b ≤ 67108864) : PCall Tryz.prog 113 #[I a, I b] (I (Int.gcd a b)) := by
 refine ⟨by kernel_rfl, fun w => ?_⟩
 refine calls_at (args := [I a, I b]) Tryz.func113 rfl (Nat.le_of_ble_eq_true rfl) (LRel.nil w) ?_
 show At w ⟨45, [(0, I a), (1, I b)], []⟩ _
 refine at_seq ?_
 refine at_region ?_
 refine r_box [_, _] 2 (fun g => [⟨some g, 23, _, 2, true⟩]) rfl rfl rfl rfl rfl (fun _ => rfl) (fun g0 => ?_)
 refine r_box [_, _] 2 (fun g => [_, ⟨some g, 23, _, 2, true⟩]) rfl rfl rfl rfl rfl (fun _ => rfl) (fun g1 => ?_)
 refine r_alloc [_, _] 2 (fun g => [_, _, ⟨some g, 23, _, 2, true⟩]) rfl rfl z23 rfl rfl (fun _ => rfl) (fun g2 => ?_)
 refine run_nil ?_
 refine at_tn ?_
 refine at_seq ?_
 refine at_drawn (l' := [⟨_,_,_,_,_,_⟩, ⟨_,_,_,_,_,_⟩, ⟨_,_,_,_,_,_⟩, ⟨_,_,_,_,_,_⟩, ⟨_,_,_,_,_,_⟩, ⟨_,_,_,_,_,_⟩]) [2000000] [0, 1, 2, 3, 4, 5] mixed (by kernel_rfl) rfl (by kernel_rfl) ?_
 refine r_fieldAddr 0 0 1 rfl rfl rfl rfl rfl ti23 rfl rfl ?_
 refine r_load 0 1 [_] rfl rfl rfl rfl ti9 rfl rfl rfl rfl ?_
 refine r_fieldAddr 1 0 1 rfl rfl rfl rfl rfl ti23 rfl rfl ?_
 refine r_load 1 1 [_] rfl rfl rfl rfl ti9 rfl rfl rfl rfl ?_
 refine r_assign rfl rfl rfl ?_
 refine r_assign rfl rfl rfl ?_
 refine run_nil ?_
 refine at_tn ?_
 refine at_seq ?_
 refine at_block ?_
 refine enterL (nt := 45) (ι := {x : Nat × Nat // Nat.gcd x.1 x.2 = Int.gcd a b ∧ nb x.1 ≤ 67108864 ∧ nb x.2 ≤ 67108864}) (fun ⟨⟨x, y⟩, hg, hx, hy⟩ => [(4, .pointer (some ⟨g2, 0, none⟩)), (5, .string (mag x)), (6, .string (mag y))]) (fun ⟨⟨x, y⟩, hg, hx, hy⟩ => [⟨some g0, 23, [.bool (decide (a < 0)), .string (mag a.natAbs)], 2, true⟩, ⟨some g1, 23, [.bool (decide (b < 0)), .string (mag b.natAbs)], 2, true⟩, ⟨some g2, 23, [.bool false, .string ⟨#[]⟩], 2, true⟩]) (fun ⟨⟨x, y⟩, hg, hx, hy⟩ => y) ⟨(a.natAbs, b.natAbs), rfl, ha, hb⟩ ⟨rfl, rfl, rfl, trivial⟩ (Weak.refl _) ?_
 rintro ⟨⟨x, y⟩, hg, hx, hy⟩
 show At _ ⟨45, [(4, .pointer (some ⟨g2, 0, none⟩)), (5, .string (mag x)), (6, .string (mag y))], [⟨some g0, 23, [.bool (decide (a < 0)), .string (mag a.natAbs)], 2, true⟩, ⟨some g1, 23, [.bool (decide (b < 0)), .string (mag b.natAbs)], 2, true⟩, ⟨some g2, 23, [.bool false, .string ⟨#[]⟩], 2, true⟩]⟩ _
 refine at_seq ?_
 refine at_seq ?_
 refine at_region ?_
 refine r_move rfl rfl rfl ?_
 refine r_neqStr rfl rfl rfl rfl ?_
 refine run_nil ?_
 refine at_tn ?_
 refine at_cond rfl (fun hb1 => ?_) (fun hb1 => ?_)
 ·
  have hy0 : y ≠ 0 := by rw [bne_empty] at hb1; simpa using hb1
  refine at_skip ?_
  refine at_tn ?_
  refine at_block ?_
  refine at_seq ?_
  refine at_seq ?_
  refine at_region ?_
  refine r_move rfl rfl rfl ?_
  refine r_move rfl rfl rfl ?_
  refine r_pcall [_, _] rfl rfl rfl (c_integer_words _ _) ?_
  refine r_move rfl rfl rfl ?_
  refine r_extract (vs := [_, _, _]) rfl rfl rfl rfl ?_
  refine r_extract (vs := [_, _, _]) rfl rfl rfl rfl ?_
  refine r_extract (vs := [_, _, _]) rfl rfl rfl rfl ?_
  refine r_assign rfl rfl rfl ?_
  refine r_assign rfl rfl rfl ?_
  refine r_assign rfl rfl rfl ?_
  refine run_nil ?_
  refine at_tn ?_
  refine at_seq ?_
  refine at_region ?_
  refine r_move rfl rfl rfl ?_
  refine run_nil ?_
  refine at_tn ?_
  refine at_cond rfl (fun hb2 => ?_) (fun hb2 => ?_)
  ·
   obtain ⟨hw1, hw2, hw3, hw4⟩ := words_T hb2
   refine at_know 7 (.int .u64 (x : Nat)) rfl (by rw [if_pos hw3]) ?_
   refine at_know 8 (.int .u64 (y : Nat)) rfl (by rw [if_pos hw4]) ?_
   refine at_seq ?_
   refine at_block ?_
   refine enterL (nt := 45) (ι := {x : Nat × Nat // Nat.gcd x.1 x.2 = Int.gcd a b ∧ x.1 < 18446744073709551616 ∧ x.2 < 18446744073709551616}) (fun ⟨⟨u, v⟩, hg2, hu, hv⟩ => [(4, .pointer (some ⟨g2, 0, none⟩)), (7, .int .u64 (u : Nat)), (8, .int .u64 (v : Nat))]) (fun ⟨⟨u, v⟩, hg2, hu, hv⟩ => [⟨some g0, 23, [.bool (decide (a < 0)), .string (mag a.natAbs)], 2, true⟩, ⟨some g1, 23, [.bool (decide (b < 0)), .string (mag b.natAbs)], 2, true⟩, ⟨some g2, 23, [.bool false, .string ⟨#[]⟩], 2, true⟩]) (fun ⟨⟨u, v⟩, hg2, hu, hv⟩ => v) ⟨(x, y), hg, hw1, hw2⟩ ⟨rfl, rfl, rfl, trivial⟩ (Weak.refl _) ?_
   rintro ⟨⟨u, v⟩, hg2, hu, hv⟩
   show At _ ⟨45, [(4, .pointer (some ⟨g2, 0, none⟩)), (7, .int .u64 (u : Nat)), (8, .int .u64 (v : Nat))], [⟨some g0, 23, [.bool (decide (a < 0)), .string (mag a.natAbs)], 2, true⟩, ⟨some g1, 23, [.bool (decide (b < 0)), .string (mag b.natAbs)], 2, true⟩, ⟨some g2, 23, [.bool false, .string ⟨#[]⟩], 2, true⟩]⟩ _
   refine at_seq ?_
   refine at_seq ?_
   refine at_region ?_
   refine r_move rfl rfl rfl ?_
   refine r_cmpInt rfl rfl rfl rfl rfl ?_
   refine run_nil ?_
   refine at_tn ?_
   refine at_cond rfl (fun hb4 => ?_) (fun hb4 => ?_)
   ·
    have hv0 : v ≠ 0 := by have := bne_iff_ne.1 hb4; omega
    refine at_skip ?_
    refine at_tn ?_
    refine at_block ?_
    refine at_tree [(4, .pointer (some ⟨g2, 0, none⟩)), (7, .int .u64 (v : Nat)), (8, .int .u64 (u % v : Nat))] [⟨some g0, 23, [.bool (decide (a < 0)), .string (mag a.natAbs)], 2, true⟩, ⟨some g1, 23, [.bool (decide (b < 0)), .string (mag b.natAbs)], 2, true⟩, ⟨some g2, 23, [.bool false, .string ⟨#[]⟩], 2, true⟩] mixed ?_ ?_
    ·
     refine t_node [0, 1, 2] (by kernel_rfl) rfl ⟨⟨_, rfl, ?_⟩, ⟨_, rfl, ?_⟩, ⟨_, rfl, ?_⟩, trivial⟩
     ·
      refine r_move rfl rfl rfl ?_
      refine run_nil ?_
      refine t_node [1, 2] (by kernel_rfl) rfl ⟨⟨_, rfl, ?_⟩, ⟨_, rfl, ?_⟩, trivial⟩
      ·
       refine r_move rfl rfl rfl ?_
       refine run_nil ?_
       refine t_node [2, 4] (by kernel_rfl) rfl ⟨⟨_, rfl, ?_⟩, ⟨_, rfl, ?_⟩, trivial⟩
       ·
        refine r_move rfl rfl rfl ?_
        refine run_nil ?_
        refine t_node [3, 4] (by kernel_rfl) rfl ⟨⟨_, rfl, ?_⟩, ⟨_, rfl, ?_⟩, trivial⟩
        ·
         refine r_div (r := ((u % v : Nat) : Int)) rfl rfl rfl rfl (by omega) (congrArg some (rem_n _ _ rfl rfl)) ?_
         refine run_nil ?_
         refine t_node [4] (by kernel_rfl) rfl ⟨⟨_, rfl, ?_⟩, trivial⟩
         ·
          refine r_assign rfl rfl rfl ?_
          refine run_nil ?_
          refine t_node [5] (by kernel_rfl) rfl ⟨⟨_, rfl, ?_⟩, trivial⟩
          ·
           refine r_assign rfl rfl rfl ?_
           refine run_nil ?_
           exact ⟨by kernel_rfl, rfl, ⟨rfl, rfl, rfl, trivial⟩, rfl⟩
        ·
         refine r_assign rfl rfl rfl ?_
         refine run_nil ?_
         refine t_node [3] (by kernel_rfl) rfl ⟨⟨_, rfl, ?_⟩, trivial⟩
         ·
          refine r_div (r := ((u % v : Nat) : Int)) rfl rfl rfl rfl (by omega) (congrArg some (rem_n _ _ rfl rfl)) ?_
          refine run_nil ?_
          refine t_node [5] (by kernel_rfl) rfl ⟨⟨_, rfl, ?_⟩, trivial⟩
          ·
           refine r_assign rfl rfl rfl ?_
           refine run_nil ?_
           exact ⟨by kernel_rfl, rfl, ⟨rfl, rfl, rfl, trivial⟩, rfl⟩
       ·
        refine r_assign rfl rfl rfl ?_
        refine run_nil ?_
        refine t_node [2] (by kernel_rfl) rfl ⟨⟨_, rfl, ?_⟩, trivial⟩
        ·
         refine r_move rfl rfl rfl ?_
         refine run_nil ?_
         refine t_node [3] (by kernel_rfl) rfl ⟨⟨_, rfl, ?_⟩, trivial⟩
         ·
          refine r_div (r := ((u % v : Nat) : Int)) rfl rfl rfl rfl (by omega) (congrArg some (rem_n _ _ rfl rfl)) ?_
          refine run_nil ?_
          refine t_node [5] (by kernel_rfl) rfl ⟨⟨_, rfl, ?_⟩, trivial⟩
          ·
           refine r_assign rfl rfl rfl ?_
           refine run_nil ?_
           exact ⟨by kernel_rfl, rfl, ⟨rfl, rfl, rfl, trivial⟩, rfl⟩
      ·
       refine r_move rfl rfl rfl ?_
       refine run_nil ?_
       refine t_node [1] (by kernel_rfl) rfl ⟨⟨_, rfl, ?_⟩, trivial⟩
       ·
        refine r_move rfl rfl rfl ?_
        refine run_nil ?_
        refine t_node [3, 4] (by kernel_rfl) rfl ⟨⟨_, rfl, ?_⟩, ⟨_, rfl, ?_⟩, trivial⟩
        ·
         refine r_div (r := ((u % v : Nat) : Int)) rfl rfl rfl rfl (by omega) (congrArg some (rem_n _ _ rfl rfl)) ?_
         refine run_nil ?_
         refine t_node [4] (by kernel_rfl) rfl ⟨⟨_, rfl, ?_⟩, trivial⟩
         ·
          refine r_assign rfl rfl rfl ?_
          refine run_nil ?_
          refine t_node [5] (by kernel_rfl) rfl ⟨⟨_, rfl, ?_⟩, trivial⟩
          ·
           refine r_assign rfl rfl rfl ?_
           refine run_nil ?_
           exact ⟨by kernel_rfl, rfl, ⟨rfl, rfl, rfl, trivial⟩, rfl⟩
        ·
         refine r_assign rfl rfl rfl ?_
         refine run_nil ?_
         refine t_node [3] (by kernel_rfl) rfl ⟨⟨_, rfl, ?_⟩, trivial⟩
         ·
          refine r_div (r := ((u % v : Nat) : Int)) rfl rfl rfl rfl (by omega) (congrArg some (rem_n _ _ rfl rfl)) ?_
          refine run_nil ?_
          refine t_node [5] (by kernel_rfl) rfl ⟨⟨_, rfl, ?_⟩, trivial⟩
          ·
           refine r_assign rfl rfl rfl ?_
           refine run_nil ?_
           exact ⟨by kernel_rfl, rfl, ⟨rfl, rfl, rfl, trivial⟩, rfl⟩
     ·
      refine r_move rfl rfl rfl ?_
      refine run_nil ?_
      refine t_node [0, 2] (by kernel_rfl) rfl ⟨⟨_, rfl, ?_⟩, ⟨_, rfl, ?_⟩, trivial⟩
      ·
       refine r_move rfl rfl rfl ?_
       refine run_nil ?_
       refine t_node [2, 4] (by kernel_rfl) rfl ⟨⟨_, rfl, ?_⟩, ⟨_, rfl, ?_⟩, trivial⟩
       ·
        refine r_move rfl rfl rfl ?_
        refine run_nil ?_
        refine t_node [3, 4] (by kernel_rfl) rfl ⟨⟨_, rfl, ?_⟩, ⟨_, rfl, ?_⟩, trivial⟩
        ·
         refine r_div (r := ((u % v : Nat) : Int)) rfl rfl rfl rfl (by omega) (congrArg some (rem_n _ _ rfl rfl)) ?_
         refine run_nil ?_
         refine t_node [4] (by kernel_rfl) rfl ⟨⟨_, rfl, ?_⟩, trivial⟩
         ·
          refine r_assign rfl rfl rfl ?_
          refine run_nil ?_
          refine t_node [5] (by kernel_rfl) rfl ⟨⟨_, rfl, ?_⟩, trivial⟩
          ·
           refine r_assign rfl rfl rfl ?_
           refine run_nil ?_
           exact ⟨by kernel_rfl, rfl, ⟨rfl, rfl, rfl, trivial⟩, rfl⟩
        ·
         refine r_assign rfl rfl rfl ?_
         refine run_nil ?_
         refine t_node [3] (by kernel_rfl) rfl ⟨⟨_, rfl, ?_⟩, trivial⟩
         ·
          refine r_div (r := ((u % v : Nat) : Int)) rfl rfl rfl rfl (by omega) (congrArg some (rem_n _ _ rfl rfl)) ?_
          refine run_nil ?_
          refine t_node [5] (by kernel_rfl) rfl ⟨⟨_, rfl, ?_⟩, trivial⟩
          ·
           refine r_assign rfl rfl rfl ?_
           refine run_nil ?_
           exact ⟨by kernel_rfl, rfl, ⟨rfl, rfl, rfl, trivial⟩, rfl⟩
       ·
        refine r_assign rfl rfl rfl ?_
        refine run_nil ?_
        refine t_node [2] (by kernel_rfl) rfl ⟨⟨_, rfl, ?_⟩, trivial⟩
        ·
         refine r_move rfl rfl rfl ?_
         refine run_nil ?_
         refine t_node [3] (by kernel_rfl) rfl ⟨⟨_, rfl, ?_⟩, trivial⟩
         ·
          refine r_div (r := ((u % v : Nat) : Int)) rfl rfl rfl rfl (by omega) (congrArg some (rem_n _ _ rfl rfl)) ?_
          refine run_nil ?_
          refine t_node [5] (by kernel_rfl) rfl ⟨⟨_, rfl, ?_⟩, trivial⟩
          ·
           refine r_assign rfl rfl rfl ?_
           refine run_nil ?_
           exact ⟨by kernel_rfl, rfl, ⟨rfl, rfl, rfl, trivial⟩, rfl⟩
      ·
       refine r_move rfl rfl rfl ?_
       refine run_nil ?_
       refine t_node [0, 3] (by kernel_rfl) rfl ⟨⟨_, rfl, ?_⟩, ⟨_, rfl, ?_⟩, trivial⟩
       ·
        refine r_move rfl rfl rfl ?_
        refine run_nil ?_
        refine t_node [3, 4] (by kernel_rfl) rfl ⟨⟨_, rfl, ?_⟩, ⟨_, rfl, ?_⟩, trivial⟩
        ·
         refine r_div (r := ((u % v : Nat) : Int)) rfl rfl rfl rfl (by omega) (congrArg some (rem_n _ _ rfl rfl)) ?_
         refine run_nil ?_
         refine t_node [4] (by kernel_rfl) rfl ⟨⟨_, rfl, ?_⟩, trivial⟩
         ·
          refine r_assign rfl rfl rfl ?_
          refine run_nil ?_
          refine t_node [5] (by kernel_rfl) rfl ⟨⟨_, rfl, ?_⟩, trivial⟩
          ·
           refine r_assign rfl rfl rfl ?_
           refine run_nil ?_
           exact ⟨by kernel_rfl, rfl, ⟨rfl, rfl, rfl, trivial⟩, rfl⟩
        ·
         refine r_assign rfl rfl rfl ?_
         refine run_nil ?_
         refine t_node [3] (by kernel_rfl) rfl ⟨⟨_, rfl, ?_⟩, trivial⟩
         ·
          refine r_div (r := ((u % v : Nat) : Int)) rfl rfl rfl rfl (by omega) (congrArg some (rem_n _ _ rfl rfl)) ?_
          refine run_nil ?_
          refine t_node [5] (by kernel_rfl) rfl ⟨⟨_, rfl, ?_⟩, trivial⟩
          ·
           refine r_assign rfl rfl rfl ?_
           refine run_nil ?_
           exact ⟨by kernel_rfl, rfl, ⟨rfl, rfl, rfl, trivial⟩, rfl⟩
       ·
        refine r_div (r := ((u % v : Nat) : Int)) rfl rfl rfl rfl (by omega) (congrArg some (rem_n _ _ rfl rfl)) ?_
        refine run_nil ?_
        refine t_node [0] (by kernel_rfl) rfl ⟨⟨_, rfl, ?_⟩, trivial⟩
        ·
         refine r_move rfl rfl rfl ?_
         refine run_nil ?_
         refine t_node [4] (by kernel_rfl) rfl ⟨⟨_, rfl, ?_⟩, trivial⟩
         ·
          refine r_assign rfl rfl rfl ?_
          refine run_nil ?_
          refine t_node [5] (by kernel_rfl) rfl ⟨⟨_, rfl, ?_⟩, trivial⟩
          ·
           refine r_assign rfl rfl rfl ?_
           refine run_nil ?_
           exact ⟨by kernel_rfl, rfl, ⟨rfl, rfl, rfl, trivial⟩, rfl⟩
     ·
      refine r_move rfl rfl rfl ?_
      refine run_nil ?_
      refine t_node [0, 1] (by kernel_rfl) rfl ⟨⟨_, rfl, ?_⟩, ⟨_, rfl, ?_⟩, trivial⟩
      ·
       refine r_move rfl rfl rfl ?_
       refine run_nil ?_
       refine t_node [1] (by kernel_rfl) rfl ⟨⟨_, rfl, ?_⟩, trivial⟩
       ·
        refine r_move rfl rfl rfl ?_
        refine run_nil ?_
        refine t_node [3, 4] (by kernel_rfl) rfl ⟨⟨_, rfl, ?_⟩, ⟨_, rfl, ?_⟩, trivial⟩
        ·
         refine r_div (r := ((u % v : Nat) : Int)) rfl rfl rfl rfl (by omega) (congrArg some (rem_n _ _ rfl rfl)) ?_
         refine run_nil ?_
         refine t_node [4] (by kernel_rfl) rfl ⟨⟨_, rfl, ?_⟩, trivial⟩
         ·
          refine r_assign rfl rfl rfl ?_
          refine run_nil ?_
          refine t_node [5] (by kernel_rfl) rfl ⟨⟨_, rfl, ?_⟩, trivial⟩
          ·
           refine r_assign rfl rfl rfl ?_
           refine run_nil ?_
           exact ⟨by kernel_rfl, rfl, ⟨rfl, rfl, rfl, trivial⟩, rfl⟩
        ·
         refine r_assign rfl rfl rfl ?_
         refine run_nil ?_
         refine t_node [3] (by kernel_rfl) rfl ⟨⟨_, rfl, ?_⟩, trivial⟩
         ·
          refine r_div (r := ((u % v : Nat) : Int)) rfl rfl rfl rfl (by omega) (congrArg some (rem_n _ _ rfl rfl)) ?_
          refine run_nil ?_
          refine t_node [5] (by kernel_rfl) rfl ⟨⟨_, rfl, ?_⟩, trivial⟩
          ·
           refine r_assign rfl rfl rfl ?_
           refine run_nil ?_
           exact ⟨by kernel_rfl, rfl, ⟨rfl, rfl, rfl, trivial⟩, rfl⟩
      ·
       refine r_move rfl rfl rfl ?_
       refine run_nil ?_
       refine t_node [0, 3] (by kernel_rfl) rfl ⟨⟨_, rfl, ?_⟩, ⟨_, rfl, ?_⟩, trivial⟩
       ·
        refine r_move rfl rfl rfl ?_
        refine run_nil ?_
        refine t_node [3, 4] (by kernel_rfl) rfl ⟨⟨_, rfl, ?_⟩, ⟨_, rfl, ?_⟩, trivial⟩
        ·
         refine r_div (r := ((u % v : Nat) : Int)) rfl rfl rfl rfl (by omega) (congrArg some (rem_n _ _ rfl rfl)) ?_
         refine run_nil ?_
         refine t_node [4] (by kernel_rfl) rfl ⟨⟨_, rfl, ?_⟩, trivial⟩
         ·
          refine r_assign rfl rfl rfl ?_
          refine run_nil ?_
          refine t_node [5] (by kernel_rfl) rfl ⟨⟨_, rfl, ?_⟩, trivial⟩
          ·
           refine r_assign rfl rfl rfl ?_
           refine run_nil ?_
           exact ⟨by kernel_rfl, rfl, ⟨rfl, rfl, rfl, trivial⟩, rfl⟩
        ·
         refine r_assign rfl rfl rfl ?_
         refine run_nil ?_
         refine t_node [3] (by kernel_rfl) rfl ⟨⟨_, rfl, ?_⟩, trivial⟩
         ·
          refine r_div (r := ((u % v : Nat) : Int)) rfl rfl rfl rfl (by omega) (congrArg some (rem_n _ _ rfl rfl)) ?_
          refine run_nil ?_
          refine t_node [5] (by kernel_rfl) rfl ⟨⟨_, rfl, ?_⟩, trivial⟩
          ·
           refine r_assign rfl rfl rfl ?_
           refine run_nil ?_
           exact ⟨by kernel_rfl, rfl, ⟨rfl, rfl, rfl, trivial⟩, rfl⟩
       ·
        refine r_div (r := ((u % v : Nat) : Int)) rfl rfl rfl rfl (by omega) (congrArg some (rem_n _ _ rfl rfl)) ?_
        refine run_nil ?_
        refine t_node [0] (by kernel_rfl) rfl ⟨⟨_, rfl, ?_⟩, trivial⟩
        ·
         refine r_move rfl rfl rfl ?_
         refine run_nil ?_
         refine t_node [4] (by kernel_rfl) rfl ⟨⟨_, rfl, ?_⟩, trivial⟩
         ·
          refine r_assign rfl rfl rfl ?_
          refine run_nil ?_
          refine t_node [5] (by kernel_rfl) rfl ⟨⟨_, rfl, ?_⟩, trivial⟩
          ·
           refine r_assign rfl rfl rfl ?_
           refine run_nil ?_
           exact ⟨by kernel_rfl, rfl, ⟨rfl, rfl, rfl, trivial⟩, rfl⟩
    refine at_bn ?_
    refine at_tn ?_
    exact nextL ⟨(v, u % v), by rw [← hg2]; exact gcd_step u v, hv, Nat.lt_of_le_of_lt (Nat.mod_le _ _) hu⟩ (Nat.mod_lt _ (Nat.pos_of_ne_zero hv0)) ⟨rfl, rfl, rfl, trivial⟩ (Weak.refl _)
   ·
    have hv0 : v = 0 := by have := of_bne_f hb4; omega
    subst hv0
    rw [Nat.gcd_zero_right] at hg2
    refine at_exit ?_
    refine at_te ?_
    refine at_te ?_
    refine at_be ?_
    refine at_tn ?_
    refine at_seq ?_
    refine at_region ?_
    refine r_move rfl rfl rfl ?_
    refine r_pcall [_] rfl rfl rfl (c_integer_magnitude _ hu) ?_
    refine r_pcall [_, _] rfl rfl rfl (c_integer_made _ _) ?_
    refine r_store rfl 2 0 [_, _, ⟨some g2, 23, _, 2, true⟩] [_, _] rfl rfl rfl rfl ti23 rfl rfl rfl rfl rfl ?_
    refine run_nil ?_
    refine at_tn ?_
    refine at_ret ?_
    refine at_tr ?_
    refine at_br ?_
    refine at_tr ?_
    refine at_br ?_
    refine at_tr ?_
    refine at_end1 rfl (res_cell 2 rfl rfl ti23 (vs := [_, _]) rfl rfl (Nat.le_of_ble_eq_true rfl) rfl) (fun w hL => ⟨?_, hL.below⟩)
    exact congrArg (fun z => Ending.returned (I z)) (gcd_fin hg2)
  ·
   refine at_skip ?_
   refine at_tn ?_
   refine at_seq ?_
   refine at_region ?_
   refine r_move rfl rfl rfl ?_
   refine r_move rfl rfl rfl ?_
   refine r_pcall [_, _] rfl rfl rfl (c_integer_div _ _ hx hy hy0) ?_
   refine r_move rfl rfl rfl ?_
   refine r_extract (vs := [_, _]) rfl rfl rfl rfl ?_
   refine r_extract (vs := [_, _]) rfl rfl rfl rfl ?_
   refine r_assign rfl rfl rfl ?_
   refine r_assign rfl rfl rfl ?_
   refine run_nil ?_
   refine at_tn ?_
   refine at_region ?_
   refine r_move rfl rfl rfl ?_
   refine r_move rfl rfl rfl ?_
   refine r_assign rfl rfl rfl ?_
   refine r_assign rfl rfl rfl ?_
   refine run_nil ?_
   refine at_bn ?_
   refine at_tn ?_
   exact nextL ⟨(y, x % y), by rw [← hg]; exact gcd_step x y, hy, Nat.le_trans (nb_mono (Nat.mod_le _ _)) hx⟩ (Nat.mod_lt _ (Nat.pos_of_ne_zero hy0)) ⟨rfl, rfl, rfl, trivial⟩ (Weak.refl _)
 ·
  have hy0 : y = 0 := by rw [bne_empty] at hb1; simpa using hb1
  subst hy0
  rw [Nat.gcd_zero_right] at hg
  refine at_exit ?_
  refine at_te ?_
  refine at_te ?_
  refine at_be ?_
  refine at_tn ?_
  refine at_seq ?_
  refine at_region ?_
  refine r_move rfl rfl rfl ?_
  refine r_pcall [_, _] rfl rfl rfl (c_integer_made _ _) ?_
  refine r_store rfl 2 0 [_, _, ⟨some g2, 23, _, 2, true⟩] [_, _] rfl rfl rfl rfl ti23 rfl rfl rfl rfl rfl ?_
  refine run_nil ?_
  refine at_tn ?_
  refine at_ret ?_
  refine at_end1 rfl (res_cell 2 rfl rfl ti23 (vs := [_, _]) rfl rfl (Nat.le_of_ble_eq_true rfl) rfl) (fun w hL => ⟨?_, hL.below⟩)
  exact congrArg (fun z => Ending.returned (I z)) (gcd_fin hg)
set_option maxRecDepth 20000 in
theorem c_integer_ToInt (z : Int) : PCall Tryz.prog 87 #[I z] (.tuple #[.int .i64 (if -9223372036854775808 ≤ z ∧ z ≤ 9223372036854775807 then z else 0), .bool (decide (-9223372036854775808 ≤ z ∧ z ≤ 9223372036854775807))]) := by
 refine ⟨by kernel_rfl, fun w => ?_⟩
 refine calls_at (args := [I z]) Tryz.func87 rfl (Nat.le_of_ble_eq_true rfl) (LRel.nil w) ?_
 show At w ⟨35, [(0, I z)], []⟩ _
 refine at_seq ?_
 refine at_region ?_
 refine r_box [_, _] 2 (fun g => [⟨some g, 23, _, 2, true⟩]) rfl rfl rfl rfl rfl (fun _ => rfl) (fun g0 => ?_)
 refine r_assign rfl rfl rfl ?_
 refine r_assign rfl rfl rfl ?_
 refine run_nil ?_
 refine at_tn ?_
 refine at_seq ?_
 refine at_region ?_
 refine r_fieldAddr 0 0 1 rfl rfl rfl rfl rfl ti23 rfl rfl ?_
 refine r_load 0 1 [_] rfl rfl rfl rfl ti9 rfl rfl rfl rfl ?_
 refine r_pcall [_] rfl rfl rfl (c_integer_word _) ?_
 refine r_move rfl rfl rfl ?_
 refine r_extract (vs := [_, _]) rfl rfl rfl rfl ?_
 refine r_extract (vs := [_, _]) rfl rfl rfl rfl ?_
 refine r_assign rfl rfl rfl ?_
 refine r_assign rfl rfl rfl ?_
 refine run_nil ?_
 refine at_tn ?_
 refine at_seq ?_
 refine at_block ?_
 refine at_seq ?_
 refine at_region ?_
 refine r_move rfl rfl rfl ?_
 refine r_not rfl rfl rfl ?_
 refine r_assign rfl rfl rfl ?_
 refine run_nil ?_
 refine at_tn ?_
 refine at_cond rfl (fun hb0 => ?_) (fun hb0 => ?_)
 ·
  refine at_seq ?_
  refine at_region ?_
  refine r_assign rfl rfl rfl ?_
  refine r_assign rfl rfl rfl ?_
  refine run_nil ?_
  refine at_tn ?_
  refine at_ret ?_
  refine at_br ?_
  refine at_tr ?_
  refine at_end2 rfl (res_tmp rfl) (res_tmp rfl) (fun w hL => ⟨?_, hL.below⟩)
  rw [(toInt_big hb0).1, (toInt_big hb0).2]
 ·
  have h8 := nb8 hb0
  have h64 := lt_of_nb_le h8
  refine at_know 4 (.int .u64 (z.natAbs : Nat)) rfl (by rw [if_pos h8]) ?_
  refine at_seq ?_
  refine at_region ?_
  refine r_fieldAddr 0 0 0 rfl rfl rfl rfl rfl ti23 rfl rfl ?_
  refine r_load 0 0 [_] rfl rfl rfl rfl ti4 rfl rfl rfl rfl ?_
  refine r_move rfl rfl rfl ?_
  refine r_split 18 rfl (fun hb1 => ?_) (fun hb1 => ?_)
  ·
   have hz : z < 0 := of_decide_eq_true hb1
   refine r_move rfl rfl rfl ?_
   refine r_cmpInt rfl rfl rfl rfl rfl ?_
   refine r_pickT rfl rfl rfl rfl ?_
   refine r_assign rfl rfl rfl ?_
   refine run_nil ?_
   refine at_tn ?_
   refine at_cond rfl (fun hb2 => ?_) (fun hb2 => ?_)
   ·
    have hu := of_decide_eq_true hb2
    refine at_seq ?_
    refine at_region ?_
    refine r_move rfl rfl rfl ?_
    refine r_neg (r := (0 - (z.natAbs : Nat) : Int) % 18446744073709551616) rfl rfl rfl ((wu64 _)) ?_
    refine r_conv (r := z) u109 u3 rfl rfl rfl (by rw [IntKind.wrap_i64]; omega) ?_
    refine r_assign rfl rfl rfl ?_
    refine r_assign rfl rfl rfl ?_
    refine run_nil ?_
    refine at_tn ?_
    refine at_ret ?_
    refine at_br ?_
    refine at_tr ?_
    refine at_end2 rfl (res_tmp rfl) (res_tmp rfl) (fun w hL => ⟨?_, hL.below⟩)
    rw [(toInt_yes (z := z) (by omega)).1, (toInt_yes (z := z) (by omega)).2]
   ·
    have hu := of_decide_eq_false hb2
    refine at_seq ?_
    refine at_region ?_
    refine r_fieldAddr 0 0 0 rfl rfl rfl rfl rfl ti23 rfl rfl ?_
    refine r_load 0 0 [_] rfl rfl rfl rfl ti4 rfl rfl rfl rfl ?_
    refine r_not rfl rfl rfl ?_
    refine r_move rfl rfl rfl ?_
    refine r_split 29 rfl (fun hb3 => ?_) (fun hb3 => ?_)
    ·
     have hz2 : ¬ z < 0 := by simpa using hb3
     refine r_move rfl rfl rfl ?_
     refine r_cmpInt rfl rfl rfl rfl rfl ?_
     refine r_pickT rfl rfl rfl rfl ?_
     refine r_assign rfl rfl rfl ?_
     refine run_nil ?_
     refine at_tn ?_
     refine at_cond rfl (fun hb4 => ?_) (fun hb4 => ?_)
     ·
      have hu := of_decide_eq_true hb4
      refine at_seq ?_
      refine at_region ?_
      refine r_move rfl rfl rfl ?_
      refine r_conv (r := z) u109 u3 rfl rfl rfl (by rw [IntKind.wrap_i64]; omega) ?_
      refine r_assign rfl rfl rfl ?_
      refine r_assign rfl rfl rfl ?_
      refine run_nil ?_
      refine at_tn ?_
      refine at_ret ?_
      refine at_br ?_
      refine at_tr ?_
      refine at_end2 rfl (res_tmp rfl) (res_tmp rfl) (fun w hL => ⟨?_, hL.below⟩)
      exfalso; omega
     ·
      have hu := of_decide_eq_false hb4
      refine at_skip ?_
      refine at_bn ?_
      refine at_tn ?_
      refine at_seq ?_
      refine at_region ?_
      refine r_assign rfl rfl rfl ?_
      refine r_assign rfl rfl rfl ?_
      refine run_nil ?_
      refine at_tn ?_
      refine at_ret ?_
      refine at_end2 rfl (res_tmp rfl) (res_tmp rfl) (fun w hL => ⟨?_, hL.below⟩)
      exfalso; omega
    ·
     have hz2 : z < 0 := by simpa using hb3
     refine r_no rfl rfl rfl ?_
     refine r_no rfl rfl rfl ?_
     refine r_pickF rfl rfl rfl rfl ?_
     refine r_assign rfl rfl rfl ?_
     refine run_nil ?_
     refine at_tn ?_
     refine at_condF rfl ?_
     refine at_skip ?_
     refine at_bn ?_
     refine at_tn ?_
     refine at_seq ?_
     refine at_region ?_
     refine r_assign rfl rfl rfl ?_
     refine r_assign rfl rfl rfl ?_
     refine run_nil ?_
     refine at_tn ?_
     refine at_ret ?_
     refine at_end2 rfl (res_tmp rfl) (res_tmp rfl) (fun w hL => ⟨?_, hL.below⟩)
     rw [(toInt_no (z := z) (by omega)).1, (toInt_no (z := z) (by omega)).2]
  ·
   have hz : ¬ z < 0 := of_decide_eq_false hb1
   refine r_no rfl rfl rfl ?_
   refine r_no rfl rfl rfl ?_
   refine r_pickF rfl rfl rfl rfl ?_
   refine r_assign rfl rfl rfl ?_
   refine run_nil ?_
   refine at_tn ?_
   refine at_condF rfl ?_
   refine at_seq ?_
   refine at_region ?_
   refine r_fieldAddr 0 0 0 rfl rfl rfl rfl rfl ti23 rfl rfl ?_
   refine r_load 0 0 [_] rfl rfl rfl rfl ti4 rfl rfl rfl rfl ?_
   refine r_not rfl rfl rfl ?_
   refine r_move rfl rfl rfl ?_
   refine r_split 29 rfl (fun hb2 => ?_) (fun hb2 => ?_)
   ·
    have hz2 : ¬ z < 0 := by simpa using hb2
    refine r_move rfl rfl rfl ?_
    refine r_cmpInt rfl rfl rfl rfl rfl ?_
    refine r_pickT rfl rfl rfl rfl ?_
    refine r_assign rfl rfl rfl ?_
    refine run_nil ?_
    refine at_tn ?_
    refine at_cond rfl (fun hb3 => ?_) (fun hb3 => ?_)
    ·
     have hu := of_decide_eq_true hb3
     refine at_seq ?_
     refine at_region ?_
     refine r_move rfl rfl rfl ?_
     refine r_conv (r := z) u109 u3 rfl rfl rfl (by rw [IntKind.wrap_i64]; omega) ?_
     refine r_assign rfl rfl rfl ?_
     refine r_assign rfl rfl rfl ?_
     refine run_nil ?_
     refine at_tn ?_
     refine at_ret ?_
     refine at_br ?_
     refine at_tr ?_
     refine at_end2 rfl (res_tmp rfl) (res_tmp rfl) (fun w hL => ⟨?_, hL.below⟩)
     rw [(toInt_yes (z := z) (by omega)).1, (toInt_yes (z := z) (by omega)).2]
    ·
     have hu := of_decide_eq_false hb3
     refine at_skip ?_
     refine at_bn ?_
     refine at_tn ?_
     refine at_seq ?_
     refine at_region ?_
     refine r_assign rfl rfl rfl ?_
     refine r_assign rfl rfl rfl ?_
     refine run_nil ?_
     refine at_tn ?_
     refine at_ret ?_
     refine at_end2 rfl (res_tmp rfl) (res_tmp rfl) (fun w hL => ⟨?_, hL.below⟩)
     rw [(toInt_no (z := z) (by omega)).1, (toInt_no (z := z) (by omega)).2]
   ·
    have hz2 : z < 0 := by simpa using hb2
    refine r_no rfl rfl rfl ?_
    refine r_no rfl rfl rfl ?_
    refine r_pickF rfl rfl rfl rfl ?_
    refine r_assign rfl rfl rfl ?_
    refine run_nil ?_
    refine at_tn ?_
    refine at_condF rfl ?_
    refine at_skip ?_
    refine at_bn ?_
    refine at_tn ?_
    refine at_seq ?_
    refine at_region ?_
    refine r_assign rfl rfl rfl ?_
    refine r_assign rfl rfl rfl ?_
    refine run_nil ?_
    refine at_tn ?_
    refine at_ret ?_
    refine at_end2 rfl (res_tmp rfl) (res_tmp rfl) (fun w hL => ⟨?_, hL.below⟩)
    exfalso; omega
end Go.Proofs.YthnlafhnpphdhaaGreatDoor
set_option linter.unusedVariables false
namespace Go.Via
open Go
/-! ### digits to the base 256, as the reference has them -/
def D8 (n : Nat) : List Nat := digs 256 n
theorem D8_length (n : Nat) : (D8 n).length = nb n := rfl
theorem D8_get {n i : Nat} (h : i < nb n) : (D8 n)[i]? = some (n / 256 ^ i % 256) := digs_getElem? (by omega) n i h
theorem step256 (n q : Nat) : n / 256 ^ q = n / 256 ^ (q + 1) * 256 + n / 256 ^ q % 256 := by
  rw [Nat.pow_succ, ← Nat.div_div_eq_div_mul]
  have := Nat.div_add_mod (n / 256 ^ q) 256
  omega
theorem lt_of_div {a b q : Nat} (h : a / 256 ^ q < b / 256 ^ q) : a < b := by
  rcases Nat.lt_or_ge a b with c | c
  · exact c
  · have := Nat.div_le_div_right (c := 256 ^ q) c; omega
theorem cmp_len_lt {a b : Nat} (h : nb a < nb b) : cmpN a b = -1 := by unfold cmpN; rw [if_pos (nb_lt h)]
theorem cmp_len_gt {a b : Nat} (h : nb b < nb a) : cmpN a b = 1 := by
  have := nb_lt h; unfold cmpN; rw [if_neg (by omega), if_pos this]
theorem cmp_dig_lt {a b q : Nat} (he : a / 256 ^ (q + 1) = b / 256 ^ (q + 1)) (h : a / 256 ^ q % 256 < b / 256 ^ q % 256) : cmpN a b = -1 := by
  have h1 := step256 a q
  have h2 := step256 b q
  have : a < b := lt_of_div (q := q) (by omega)
  unfold cmpN; rw [if_pos this]
theorem cmp_dig_gt {a b q : Nat} (he : a / 256 ^ (q + 1) = b / 256 ^ (q + 1)) (h : b / 256 ^ q % 256 < a / 256 ^ q % 256) : cmpN a b = 1 := by
  have h1 := step256 a q
  have h2 := step256 b q
  have : b < a := lt_of_div (q := q) (by omega)
  unfold cmpN; rw [if_neg (by omega), if_pos this]
theorem cmp_dig_eq {a b q : Nat} (he : a / 256 ^ (q + 1) = b / 256 ^ (q + 1)) (h1 : ¬ a / 256 ^ q % 256 < b / 256 ^ q % 256) (h2 : ¬ b / 256 ^ q % 256 < a / 256 ^ q % 256) : a / 256 ^ q = b / 256 ^ q := by
  have e1 := step256 a q
  have e2 := step256 b q
  omega
theorem cmp_top {a b : Nat} (h : nb a = nb b) : a / 256 ^ nb a = b / 256 ^ nb a := by
  rw [Nat.div_eq_of_lt (lt_nb a), h, Nat.div_eq_of_lt (lt_nb b)]
theorem cmp_end {a b : Nat} (h : a / 256 ^ 0 = b / 256 ^ 0) : cmpN a b = 0 := by
  have : a = b := by simpa using h
  subst this; unfold cmpN; rw [if_neg (Nat.lt_irrefl _), if_neg (Nat.lt_irrefl _)]
theorem small_lt {n q : Nat} (h7 : nb n ≤ 7) : n / 256 ^ q < 72057594037927936 := by
  have h1 := lt_of_nb_le h7
  have : n / 256 ^ q ≤ n := Nat.div_le_self _ _
  omega
theorem bytT_rev (n : Nat) : row (nb n) (bytT n (nb n) (nb n)) = (digs 256 n).reverse := by
  apply List.ext_getElem?
  intro j
  by_cases hj : j < nb n
  · rw [row_get hj, List.getElem?_reverse (by exact hj)]
    have e := digs_getElem? (B := 256) (by omega) n (nb n - 1 - j) (by unfold nb at *; omega)
    unfold nb at e hj ⊢
    rw [e]
    unfold bytT
    rw [if_pos (by omega)]
  · rw [List.getElem?_eq_none (by rw [row_length]; omega), List.getElem?_eq_none (by simp; unfold nb at hj; omega)]
theorem D8_trim (n : Nat) : digs 256 (val 256 (D8 n)) = D8 n := by unfold D8; rw [val_digs (by omega)]
end Go.Via
