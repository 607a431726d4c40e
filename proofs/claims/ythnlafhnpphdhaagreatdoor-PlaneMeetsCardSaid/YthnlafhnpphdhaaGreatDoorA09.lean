/-
  Part 9: lemmas, and walks through the functions that the laws of chapter 07 call. Each theorem states its own conditions.
-/
import Derived.Test.YthnlafhnpphdhaaGreatDoorA02
import Derived.Test.YthnlafhnpphdhaaGreatDoorA05
import Derived.Test.YthnlafhnpphdhaaGreatDoorA08
set_option linter.unusedVariables false
set_option linter.unusedVariables false
namespace Go.Proofs.YthnlafhnpphdhaaGreatDoor
open Go Go.RowKit Go.Via
set_option maxRecDepth 20000 in
theorem c_integer_Negate (z : Int) : PCall Tryz.prog 116 #[I z] (I (-z)) := by
  refine ⟨by kernel_rfl, fun w => ?_⟩
  refine calls_at (args := [I z]) Tryz.func116 rfl (Nat.le_of_ble_eq_true rfl) (LRel.nil w) ?_
  show At w ⟨9, [(0, I z)], []⟩ _
  refine at_seq ?_
  refine at_region ?_
  refine r_box [_, _] 2 (fun g => [⟨some g, 23, _, 2, true⟩]) rfl rfl rfl rfl rfl (fun _ => rfl) (fun g0 => ?_)
  refine r_alloc [_, _] 2 (fun g => [_, ⟨some g, 23, _, 2, true⟩]) rfl rfl z23 rfl rfl (fun _ => rfl) (fun g1 => ?_)
  refine run_nil ?_
  refine at_tn ?_
  refine at_seq ?_
  refine at_region ?_
  refine r_fieldAddr 0 0 0 rfl rfl rfl rfl rfl ti23 rfl rfl ?_
  refine r_load 0 0 [_] rfl rfl rfl rfl ti4 rfl rfl rfl rfl ?_
  refine r_not rfl rfl rfl ?_
  refine r_fieldAddr 0 0 1 rfl rfl rfl rfl rfl ti23 rfl rfl ?_
  refine r_load 0 1 [_] rfl rfl rfl rfl ti9 rfl rfl rfl rfl ?_
  refine r_pcall [_, _] rfl rfl rfl (c_integer_made _ _) ?_
  refine r_store rfl 1 0 [_, ⟨some g1, 23, _, 2, true⟩] [_, _] rfl rfl rfl rfl ti23 rfl rfl rfl rfl rfl ?_
  refine run_nil ?_
  refine at_tn ?_
  refine at_ret ?_
  refine at_end1 rfl (res_cell 1 rfl rfl ti23 (vs := [_, _]) rfl rfl (Nat.le_of_ble_eq_true rfl) rfl) (fun w hL => ⟨?_, hL.below⟩)
  exact congrArg (fun z => Ending.returned (I z)) (negate_val z)
set_option maxRecDepth 20000 in
theorem c_integer_Add (a b : Int) (ha : szI a ≤ 67108864) (hb : szI b ≤ 67108864) : PCall Tryz.prog 94 #[I a, I b] (I (a + b)) := by
  refine ⟨by kernel_rfl, fun w => ?_⟩
  refine calls_at (args := [I a, I b]) Tryz.func94 rfl (Nat.le_of_ble_eq_true rfl) (LRel.nil w) ?_
  show At w ⟨42, [(0, I a), (1, I b)], []⟩ _
  refine at_seq ?_
  refine at_region ?_
  refine r_box [_, _] 2 (fun g => [⟨some g, 23, _, 2, true⟩]) rfl rfl rfl rfl rfl (fun _ => rfl) (fun g0 => ?_)
  refine r_box [_, _] 2 (fun g => [_, ⟨some g, 23, _, 2, true⟩]) rfl rfl rfl rfl rfl (fun _ => rfl) (fun g1 => ?_)
  refine r_alloc [_, _] 2 (fun g => [_, _, ⟨some g, 23, _, 2, true⟩]) rfl rfl z23 rfl rfl (fun _ => rfl) (fun g2 => ?_)
  refine run_nil ?_
  refine at_tn ?_
  refine at_seq ?_
  refine at_block ?_
  refine at_seq ?_
  refine at_region ?_
  refine r_fieldAddr 0 0 0 rfl rfl rfl rfl rfl ti23 rfl rfl ?_
  refine r_load 0 0 [_] rfl rfl rfl rfl ti4 rfl rfl rfl rfl ?_
  refine r_fieldAddr 1 0 0 rfl rfl rfl rfl rfl ti23 rfl rfl ?_
  refine r_load 1 0 [_] rfl rfl rfl rfl ti4 rfl rfl rfl rfl ?_
  refine r_eqlBool rfl u4 rfl rfl rfl ?_
  refine r_assign rfl rfl rfl ?_
  refine run_nil ?_
  refine at_tn ?_
  refine at_cond rfl (fun hb0 => ?_) (fun hb0 => ?_)
  ·
    refine at_seq ?_
    refine at_drawn (l' := [⟨_,_,_,_,_,_⟩, ⟨_,_,_,_,_,_⟩, ⟨_,_,_,_,_,_⟩, ⟨_,_,_,_,_,_⟩, ⟨_,_,_,_,_,_⟩, ⟨_,_,_,_,_,_⟩, ⟨_,_,_,_,_,_⟩, ⟨_,_,_,_,_,_⟩, ⟨_,_,_,_,_,_⟩]) [] [0, 1, 2, 3, 4, 5, 6, 7, 8] mixed (by kernel_rfl) rfl (by kernel_rfl) ?_
    refine r_fieldAddr 0 0 0 rfl rfl rfl rfl rfl ti23 rfl rfl ?_
    refine r_load 0 0 [_] rfl rfl rfl rfl ti4 rfl rfl rfl rfl ?_
    refine r_fieldAddr 0 0 1 rfl rfl rfl rfl rfl ti23 rfl rfl ?_
    refine r_load 0 1 [_] rfl rfl rfl rfl ti9 rfl rfl rfl rfl ?_
    refine r_fieldAddr 1 0 1 rfl rfl rfl rfl rfl ti23 rfl rfl ?_
    refine r_load 1 1 [_] rfl rfl rfl rfl ti9 rfl rfl rfl rfl ?_
    refine r_pcall [_, _] rfl rfl rfl (c_integer_add _ _ ha hb) ?_
    refine r_pcall [_, _] rfl rfl rfl (c_integer_made _ _) ?_
    refine r_store rfl 2 0 [_, _, ⟨some g2, 23, _, 2, true⟩] [_, _] rfl rfl rfl rfl ti23 rfl rfl rfl rfl rfl ?_
    refine run_nil ?_
    refine at_tn ?_
    refine at_ret ?_
    refine at_br ?_
    refine at_tr ?_
    refine at_end1 rfl (res_cell 2 rfl rfl ti23 (vs := [_, _]) rfl rfl (Nat.le_of_ble_eq_true rfl) rfl) (fun w hL => ⟨?_, hL.below⟩)
    exact congrArg (fun z => Ending.returned (I z)) (add_same a b hb0)
  ·
    refine at_seq ?_
    refine at_region ?_
    refine r_fieldAddr 0 0 1 rfl rfl rfl rfl rfl ti23 rfl rfl ?_
    refine r_load 0 1 [_] rfl rfl rfl rfl ti9 rfl rfl rfl rfl ?_
    refine r_fieldAddr 1 0 1 rfl rfl rfl rfl rfl ti23 rfl rfl ?_
    refine r_load 1 1 [_] rfl rfl rfl rfl ti9 rfl rfl rfl rfl ?_
    refine r_pcall [_, _] rfl rfl rfl (c_integer_compare _ _) ?_
    refine r_cmpInt rfl rfl rfl rfl rfl ?_
    refine r_assign rfl rfl rfl ?_
    refine run_nil ?_
    refine at_tn ?_
    refine at_cond rfl (fun hb1 => ?_) (fun hb1 => ?_)
    ·
      refine at_seq ?_
      refine at_drawn (l' := [⟨_,_,_,_,_,_⟩, ⟨_,_,_,_,_,_⟩, ⟨_,_,_,_,_,_⟩, ⟨_,_,_,_,_,_⟩, ⟨_,_,_,_,_,_⟩, ⟨_,_,_,_,_,_⟩, ⟨_,_,_,_,_,_⟩, ⟨_,_,_,_,_,_⟩, ⟨_,_,_,_,_,_⟩]) [] [0, 1, 2, 3, 4, 5, 6, 7, 8] mixed (by kernel_rfl) rfl (by kernel_rfl) ?_
      refine r_fieldAddr 0 0 0 rfl rfl rfl rfl rfl ti23 rfl rfl ?_
      refine r_load 0 0 [_] rfl rfl rfl rfl ti4 rfl rfl rfl rfl ?_
      refine r_fieldAddr 0 0 1 rfl rfl rfl rfl rfl ti23 rfl rfl ?_
      refine r_load 0 1 [_] rfl rfl rfl rfl ti9 rfl rfl rfl rfl ?_
      refine r_fieldAddr 1 0 1 rfl rfl rfl rfl rfl ti23 rfl rfl ?_
      refine r_load 1 1 [_] rfl rfl rfl rfl ti9 rfl rfl rfl rfl ?_
      refine r_pcall [_, _] rfl rfl rfl (c_integer_sub _ _ ha (cmpN_ge _ _ hb1)) ?_
      refine r_pcall [_, _] rfl rfl rfl (c_integer_made _ _) ?_
      refine r_store rfl 2 0 [_, _, ⟨some g2, 23, _, 2, true⟩] [_, _] rfl rfl rfl rfl ti23 rfl rfl rfl rfl rfl ?_
      refine run_nil ?_
      refine at_tn ?_
      refine at_ret ?_
      refine at_br ?_
      refine at_tr ?_
      refine at_end1 rfl (res_cell 2 rfl rfl ti23 (vs := [_, _]) rfl rfl (Nat.le_of_ble_eq_true rfl) rfl) (fun w hL => ⟨?_, hL.below⟩)
      exact congrArg (fun z => Ending.returned (I z)) (add_diff1 a b hb0 (cmpN_ge _ _ hb1))
    ·
      refine at_skip ?_
      refine at_bn ?_
      refine at_tn ?_
      refine at_seq ?_
      refine at_drawn (l' := [⟨_,_,_,_,_,_⟩, ⟨_,_,_,_,_,_⟩, ⟨_,_,_,_,_,_⟩, ⟨_,_,_,_,_,_⟩, ⟨_,_,_,_,_,_⟩, ⟨_,_,_,_,_,_⟩, ⟨_,_,_,_,_,_⟩, ⟨_,_,_,_,_,_⟩, ⟨_,_,_,_,_,_⟩]) [] [0, 1, 2, 3, 4, 5, 6, 7, 8] mixed (by kernel_rfl) rfl (by kernel_rfl) ?_
      refine r_fieldAddr 1 0 0 rfl rfl rfl rfl rfl ti23 rfl rfl ?_
      refine r_load 1 0 [_] rfl rfl rfl rfl ti4 rfl rfl rfl rfl ?_
      refine r_fieldAddr 1 0 1 rfl rfl rfl rfl rfl ti23 rfl rfl ?_
      refine r_load 1 1 [_] rfl rfl rfl rfl ti9 rfl rfl rfl rfl ?_
      refine r_fieldAddr 0 0 1 rfl rfl rfl rfl rfl ti23 rfl rfl ?_
      refine r_load 0 1 [_] rfl rfl rfl rfl ti9 rfl rfl rfl rfl ?_
      refine r_pcall [_, _] rfl rfl rfl (c_integer_sub _ _ hb (cmpN_lt _ _ hb1)) ?_
      refine r_pcall [_, _] rfl rfl rfl (c_integer_made _ _) ?_
      refine r_store rfl 2 0 [_, _, ⟨some g2, 23, _, 2, true⟩] [_, _] rfl rfl rfl rfl ti23 rfl rfl rfl rfl rfl ?_
      refine run_nil ?_
      refine at_tn ?_
      refine at_ret ?_
      refine at_end1 rfl (res_cell 2 rfl rfl ti23 (vs := [_, _]) rfl rfl (Nat.le_of_ble_eq_true rfl) rfl) (fun w hL => ⟨?_, hL.below⟩)
      exact congrArg (fun z => Ending.returned (I z)) (add_diff2 a b hb0 (cmpN_lt _ _ hb1))
set_option maxRecDepth 20000 in
theorem c_integer_Mul (a b : Int) (ha : szI a ≤ 67108864) (hb : szI b ≤ 67108864) : PCall Tryz.prog 102 #[I a, I b] (I (a * b)) := by
  refine ⟨by kernel_rfl, fun w => ?_⟩
  refine calls_at (args := [I a, I b]) Tryz.func102 rfl (Nat.le_of_ble_eq_true rfl) (LRel.nil w) ?_
  show At w ⟨16, [(0, I a), (1, I b)], []⟩ _
  refine at_seq ?_
  refine at_region ?_
  refine r_box [_, _] 2 (fun g => [⟨some g, 23, _, 2, true⟩]) rfl rfl rfl rfl rfl (fun _ => rfl) (fun g0 => ?_)
  refine r_box [_, _] 2 (fun g => [_, ⟨some g, 23, _, 2, true⟩]) rfl rfl rfl rfl rfl (fun _ => rfl) (fun g1 => ?_)
  refine r_alloc [_, _] 2 (fun g => [_, _, ⟨some g, 23, _, 2, true⟩]) rfl rfl z23 rfl rfl (fun _ => rfl) (fun g2 => ?_)
  refine run_nil ?_
  refine at_tn ?_
  refine at_seq ?_
  refine at_drawn (l' := [⟨_,_,_,_,_,_⟩, ⟨_,_,_,_,_,_⟩, ⟨_,_,_,_,_,_⟩, ⟨_,_,_,_,_,_⟩, ⟨_,_,_,_,_,_⟩, ⟨_,_,_,_,_,_⟩, ⟨_,_,_,_,_,_⟩, ⟨_,_,_,_,_,_⟩, ⟨_,_,_,_,_,_⟩, ⟨_,_,_,_,_,_⟩, ⟨_,_,_,_,_,_⟩, ⟨_,_,_,_,_,_⟩]) [] [0, 1, 2, 3, 4, 5, 6, 7, 8, 9, 10, 11] mixed (by kernel_rfl) rfl (by kernel_rfl) ?_
  refine r_fieldAddr 0 0 0 rfl rfl rfl rfl rfl ti23 rfl rfl ?_
  refine r_load 0 0 [_] rfl rfl rfl rfl ti4 rfl rfl rfl rfl ?_
  refine r_fieldAddr 1 0 0 rfl rfl rfl rfl rfl ti23 rfl rfl ?_
  refine r_load 1 0 [_] rfl rfl rfl rfl ti4 rfl rfl rfl rfl ?_
  refine r_neqBool rfl u4 rfl rfl rfl ?_
  refine r_fieldAddr 0 0 1 rfl rfl rfl rfl rfl ti23 rfl rfl ?_
  refine r_load 0 1 [_] rfl rfl rfl rfl ti9 rfl rfl rfl rfl ?_
  refine r_fieldAddr 1 0 1 rfl rfl rfl rfl rfl ti23 rfl rfl ?_
  refine r_load 1 1 [_] rfl rfl rfl rfl ti9 rfl rfl rfl rfl ?_
  refine r_pcall [_, _] rfl rfl rfl (c_integer_mul _ _ ha hb) ?_
  refine r_pcall [_, _] rfl rfl rfl (c_integer_made _ _) ?_
  refine r_store rfl 2 0 [_, _, ⟨some g2, 23, _, 2, true⟩] [_, _] rfl rfl rfl rfl ti23 rfl rfl rfl rfl rfl ?_
  refine run_nil ?_
  refine at_tn ?_
  refine at_ret ?_
  refine at_end1 rfl (res_cell 2 rfl rfl ti23 (vs := [_, _]) rfl rfl (Nat.le_of_ble_eq_true rfl) rfl) (fun w hL => ⟨?_, hL.below⟩)
  exact congrArg (fun z => Ending.returned (I z)) (mul_val a b)
set_option maxRecDepth 20000 in
theorem c_integer_DivMod (a b : Int) (ha : szI a ≤ 33554432) (hb : szI b ≤ 33554432) (h0 : b ≠ 0) : PCall Tryz.prog 128 #[I a, I b] (.tuple #[I (a / b), I (a % b), .int .i64 0]) := by
  have szle : nb a.natAbs ≤ 67108864 := Nat.le_trans ha (Nat.le_of_ble_eq_true rfl)
  have szle2 : nb b.natAbs ≤ 67108864 := Nat.le_trans hb (Nat.le_of_ble_eq_true rfl)
  refine ⟨by kernel_rfl, fun w => ?_⟩
  refine calls_at (args := [I a, I b]) Tryz.func128 rfl (Nat.le_of_ble_eq_true rfl) (LRel.nil w) ?_
  show At w ⟨43, [(0, I a), (1, I b)], []⟩ _
  refine at_seq ?_
  refine at_region ?_
  refine r_box [_, _] 2 (fun g => [⟨some g, 23, _, 2, true⟩]) rfl rfl rfl rfl rfl (fun _ => rfl) (fun g0 => ?_)
  refine r_box [_, _] 2 (fun g => [_, ⟨some g, 23, _, 2, true⟩]) rfl rfl rfl rfl rfl (fun _ => rfl) (fun g1 => ?_)
  refine r_alloc [_, _] 2 (fun g => [_, _, ⟨some g, 23, _, 2, true⟩]) rfl rfl z23 rfl rfl (fun _ => rfl) (fun g2 => ?_)
  refine r_alloc [_, _] 2 (fun g => [_, _, _, ⟨some g, 23, _, 2, true⟩]) rfl rfl z23 rfl rfl (fun _ => rfl) (fun g3 => ?_)
  refine r_assign rfl rfl rfl ?_
  refine run_nil ?_
  refine at_tn ?_
  refine at_seq ?_
  refine at_seq ?_
  refine at_region ?_
  refine r_fieldAddr 1 0 1 rfl rfl rfl rfl rfl ti23 rfl rfl ?_
  refine r_load 1 1 [_] rfl rfl rfl rfl ti9 rfl rfl rfl rfl ?_
  refine r_eqlStr rfl rfl rfl rfl ?_
  refine run_nil ?_
  refine at_tn ?_
  refine at_cond rfl (fun hb0 => ?_) (fun hb0 => ?_)
  · exact absurd hb0 (by rw [beq_empty]; simp; omega)
  ·
    refine at_skip ?_
    refine at_tn ?_
    refine at_seq ?_
    refine at_region ?_
    refine r_fieldAddr 0 0 1 rfl rfl rfl rfl rfl ti23 rfl rfl ?_
    refine r_load 0 1 [_] rfl rfl rfl rfl ti9 rfl rfl rfl rfl ?_
    refine r_fieldAddr 1 0 1 rfl rfl rfl rfl rfl ti23 rfl rfl ?_
    refine r_load 1 1 [_] rfl rfl rfl rfl ti9 rfl rfl rfl rfl ?_
    refine r_pcall [_, _] rfl rfl rfl (c_integer_div _ _ (by first | assumption | grind [lI_add, lI_sub, lI_mul, lI_neg, lI_gcd, lI_num, lI_den, lQ_add, lQ_sub, lQ_mul, lQ_div, lQ_neg, l_nb]) (by first | assumption | grind [lI_add, lI_sub, lI_mul, lI_neg, lI_gcd, lI_num, lI_den, lQ_add, lQ_sub, lQ_mul, lQ_div, lQ_neg, l_nb]) (by omega)) ?_
    refine r_move rfl rfl rfl ?_
    refine r_extract (vs := [_, _]) rfl rfl rfl rfl ?_
    refine r_extract (vs := [_, _]) rfl rfl rfl rfl ?_
    refine r_assign rfl rfl rfl ?_
    refine r_assign rfl rfl rfl ?_
    refine run_nil ?_
    refine at_tn ?_
    refine at_seq ?_
    refine at_seq ?_
    refine at_region ?_
    refine r_fieldAddr 0 0 0 rfl rfl rfl rfl rfl ti23 rfl rfl ?_
    refine r_load 0 0 [_] rfl rfl rfl rfl ti4 rfl rfl rfl rfl ?_
    refine r_move rfl rfl rfl ?_
    refine r_split 24 rfl (fun hb1 => ?_) (fun hb1 => ?_)
    ·
      refine r_move rfl rfl rfl ?_
      refine r_neqStr rfl rfl rfl rfl ?_
      refine r_pickT rfl rfl rfl rfl ?_
      refine run_nil ?_
      refine at_tn ?_
      refine at_cond rfl (fun hb2 => ?_) (fun hb2 => ?_)
      ·
        refine at_drawn (l' := [⟨_,_,_,_,_,_⟩, ⟨_,_,_,_,_,_⟩, ⟨_,_,_,_,_,_⟩, ⟨_,_,_,_,_,_⟩, ⟨_,_,_,_,_,_⟩, ⟨_,_,_,_,_,_⟩, ⟨_,_,_,_,_,_⟩, ⟨_,_,_,_,_,_⟩]) [] [0, 2, 3, 4, 1, 5, 6, 7] mixed (by kernel_rfl) rfl (by kernel_rfl) ?_
        refine r_move rfl rfl rfl ?_
        refine r_fieldAddr 1 0 1 rfl rfl rfl rfl rfl ti23 rfl rfl ?_
        refine r_load 1 1 [_] rfl rfl rfl rfl ti9 rfl rfl rfl rfl ?_
        refine r_move rfl rfl rfl ?_
        refine r_pcall [_, .string (mag 1)] rfl rfl (by rw [mag_one]; rfl) (c_integer_add _ _ (Nat.le_trans (nb_div _ _) (Nat.le_trans ha (Nat.le_of_ble_eq_true rfl))) (Nat.le_trans (nb_le (k := 1) (by omega)) (Nat.le_of_ble_eq_true rfl))) ?_
        refine r_pcall [_, _] rfl rfl rfl (c_integer_sub _ _ (by first | assumption | grind [lI_add, lI_sub, lI_mul, lI_neg, lI_gcd, lI_num, lI_den, lQ_add, lQ_sub, lQ_mul, lQ_div, lQ_neg, l_nb]) (Nat.le_of_lt (Nat.mod_lt _ (by omega)))) ?_
        refine r_assign rfl rfl rfl ?_
        refine r_assign rfl rfl rfl ?_
        refine run_nil ?_
        refine at_tn ?_
        refine at_seq ?_
        refine at_region ?_
        refine r_fieldAddr 0 0 0 rfl rfl rfl rfl rfl ti23 rfl rfl ?_
        refine r_load 0 0 [_] rfl rfl rfl rfl ti4 rfl rfl rfl rfl ?_
        refine r_fieldAddr 1 0 0 rfl rfl rfl rfl rfl ti23 rfl rfl ?_
        refine r_load 1 0 [_] rfl rfl rfl rfl ti4 rfl rfl rfl rfl ?_
        refine r_neqBool rfl u4 rfl rfl rfl ?_
        refine r_move rfl rfl rfl ?_
        refine r_pcall [_, _] rfl rfl rfl (c_integer_made _ _) ?_
        refine r_move rfl rfl rfl ?_
        refine r_pcall [_, _] rfl rfl rfl (c_integer_made _ _) ?_
        refine r_store rfl 2 0 [_, _, ⟨some g2, 23, _, 2, true⟩, _] [_, _] rfl rfl rfl rfl ti23 rfl rfl rfl rfl rfl ?_
        refine r_store rfl 3 0 [_, _, _, ⟨some g3, 23, _, 2, true⟩] [_, _] rfl rfl rfl rfl ti23 rfl rfl rfl rfl rfl ?_
        refine r_assign rfl rfl rfl ?_
        refine run_nil ?_
        refine at_tn ?_
        refine at_ret ?_
        refine at_end3 rfl (res_cell 2 rfl rfl ti23 (vs := [_, _]) rfl rfl (Nat.le_of_ble_eq_true rfl) rfl) (res_cell 3 rfl rfl ti23 (vs := [_, _]) rfl rfl (Nat.le_of_ble_eq_true rfl) rfl) (res_tmp rfl) (fun w hL => ⟨?_, hL.below⟩)
        have e := divmod_T (a := a) (b := b) h0 (by simpa using hb1) (by rw [bne_empty] at hb2; simpa using hb2)
        rw [← e.1, ← e.2]; rfl
      ·
        refine at_skip ?_
        refine at_tn ?_
        refine at_seq ?_
        refine at_region ?_
        refine r_fieldAddr 0 0 0 rfl rfl rfl rfl rfl ti23 rfl rfl ?_
        refine r_load 0 0 [_] rfl rfl rfl rfl ti4 rfl rfl rfl rfl ?_
        refine r_fieldAddr 1 0 0 rfl rfl rfl rfl rfl ti23 rfl rfl ?_
        refine r_load 1 0 [_] rfl rfl rfl rfl ti4 rfl rfl rfl rfl ?_
        refine r_neqBool rfl u4 rfl rfl rfl ?_
        refine r_move rfl rfl rfl ?_
        refine r_pcall [_, _] rfl rfl rfl (c_integer_made _ _) ?_
        refine r_move rfl rfl rfl ?_
        refine r_pcall [_, _] rfl rfl rfl (c_integer_made _ _) ?_
        refine r_store rfl 2 0 [_, _, ⟨some g2, 23, _, 2, true⟩, _] [_, _] rfl rfl rfl rfl ti23 rfl rfl rfl rfl rfl ?_
        refine r_store rfl 3 0 [_, _, _, ⟨some g3, 23, _, 2, true⟩] [_, _] rfl rfl rfl rfl ti23 rfl rfl rfl rfl rfl ?_
        refine r_assign rfl rfl rfl ?_
        refine run_nil ?_
        refine at_tn ?_
        refine at_ret ?_
        refine at_end3 rfl (res_cell 2 rfl rfl ti23 (vs := [_, _]) rfl rfl (Nat.le_of_ble_eq_true rfl) rfl) (res_cell 3 rfl rfl ti23 (vs := [_, _]) rfl rfl (Nat.le_of_ble_eq_true rfl) rfl) (res_tmp rfl) (fun w hL => ⟨?_, hL.below⟩)
        have e := divmod_F (a := a) (b := b) h0 (.inr (by rw [bne_empty] at hb2; simpa using hb2))
        rw [← e.1, ← e.2]; rfl
    ·
      refine r_no rfl rfl rfl ?_
      refine r_no rfl rfl rfl ?_
      refine r_pickF rfl rfl rfl rfl ?_
      refine run_nil ?_
      refine at_tn ?_
      refine at_condF rfl ?_
      refine at_skip ?_
      refine at_tn ?_
      refine at_seq ?_
      refine at_region ?_
      refine r_fieldAddr 0 0 0 rfl rfl rfl rfl rfl ti23 rfl rfl ?_
      refine r_load 0 0 [_] rfl rfl rfl rfl ti4 rfl rfl rfl rfl ?_
      refine r_fieldAddr 1 0 0 rfl rfl rfl rfl rfl ti23 rfl rfl ?_
      refine r_load 1 0 [_] rfl rfl rfl rfl ti4 rfl rfl rfl rfl ?_
      refine r_neqBool rfl u4 rfl rfl rfl ?_
      refine r_move rfl rfl rfl ?_
      refine r_pcall [_, _] rfl rfl rfl (c_integer_made _ _) ?_
      refine r_move rfl rfl rfl ?_
      refine r_pcall [_, _] rfl rfl rfl (c_integer_made _ _) ?_
      refine r_store rfl 2 0 [_, _, ⟨some g2, 23, _, 2, true⟩, _] [_, _] rfl rfl rfl rfl ti23 rfl rfl rfl rfl rfl ?_
      refine r_store rfl 3 0 [_, _, _, ⟨some g3, 23, _, 2, true⟩] [_, _] rfl rfl rfl rfl ti23 rfl rfl rfl rfl rfl ?_
      refine r_assign rfl rfl rfl ?_
      refine run_nil ?_
      refine at_tn ?_
      refine at_ret ?_
      refine at_end3 rfl (res_cell 2 rfl rfl ti23 (vs := [_, _]) rfl rfl (Nat.le_of_ble_eq_true rfl) rfl) (res_cell 3 rfl rfl ti23 (vs := [_, _]) rfl rfl (Nat.le_of_ble_eq_true rfl) rfl) (res_tmp rfl) (fun w hL => ⟨?_, hL.below⟩)
      have e := divmod_F (a := a) (b := b) h0 (.inl (by simpa using hb1))
      rw [← e.1, ← e.2]; rfl
set_option maxRecDepth 20000 in
theorem c_rational_one  : PCall Tryz.prog 112 #[] (I 1) := by
  refine ⟨by kernel_rfl, fun w => ?_⟩
  refine calls_at (args := []) Tryz.func112 rfl (Nat.le_of_ble_eq_true rfl) (LRel.nil w) ?_
  show At w ⟨2, [], []⟩ _
  refine at_seq ?_
  refine at_region ?_
  refine r_alloc [_, _] 2 (fun g => [⟨some g, 23, _, 2, true⟩]) rfl rfl z23 rfl rfl (fun _ => rfl) (fun g0 => ?_)
  refine run_nil ?_
  refine at_tn ?_
  refine at_seq ?_
  refine at_region ?_
  refine r_pcall [_] rfl rfl rfl (c_integer_FromInt 1 (by omega) (by omega)) ?_
  refine r_store rfl 0 0 [⟨some g0, 23, _, 2, true⟩] [_, _] rfl rfl rfl rfl ti23 rfl rfl rfl rfl rfl ?_
  refine run_nil ?_
  refine at_tn ?_
  refine at_ret ?_
  refine at_end1 rfl (res_cell 0 rfl rfl ti23 (vs := [_, _]) rfl rfl (Nat.le_of_ble_eq_true rfl) rfl) (fun w hL => ⟨?_, hL.below⟩)
  exact rfl
set_option maxRecDepth 20000 in
theorem c_rational_quotient (a b : Int) (ha : szI a ≤ 33554432) (hb : szI b ≤ 33554432) (h0 : b ≠ 0) : PCall Tryz.prog 115 #[I a, I b] (I (a / b)) := by
  refine ⟨by kernel_rfl, fun w => ?_⟩
  refine calls_at (args := [I a, I b]) Tryz.func115 rfl (Nat.le_of_ble_eq_true rfl) (LRel.nil w) ?_
  show At w ⟨16, [(0, I a), (1, I b)], []⟩ _
  refine at_seq ?_
  refine at_region ?_
  refine r_box [_, _] 2 (fun g => [⟨some g, 23, _, 2, true⟩]) rfl rfl rfl rfl rfl (fun _ => rfl) (fun g0 => ?_)
  refine r_box [_, _] 2 (fun g => [_, ⟨some g, 23, _, 2, true⟩]) rfl rfl rfl rfl rfl (fun _ => rfl) (fun g1 => ?_)
  refine r_alloc [_, _] 2 (fun g => [_, _, ⟨some g, 23, _, 2, true⟩]) rfl rfl z23 rfl rfl (fun _ => rfl) (fun g2 => ?_)
  refine run_nil ?_
  refine at_tn ?_
  refine at_seq ?_
  refine at_region ?_
  refine r_load 0 0 [_, _] rfl rfl rfl rfl ti23 rfl rfl rfl rfl ?_
  refine r_load 1 0 [_, _] rfl rfl rfl rfl ti23 rfl rfl rfl rfl ?_
  refine r_pcall [_, _] rfl rfl rfl (c_integer_DivMod a b ha hb h0) ?_
  refine r_move rfl rfl rfl ?_
  refine r_extract (vs := [_, _, _]) rfl rfl rfl rfl ?_
  refine r_extract (vs := [_, _, _]) rfl rfl rfl rfl ?_
  refine r_extract (vs := [_, _, _]) rfl rfl rfl rfl ?_
  refine r_alloc [_, _] 2 (fun g => [_, _, _, ⟨some g, 23, _, 2, true⟩]) rfl rfl z23 rfl rfl (fun _ => rfl) (fun g3 => ?_)
  refine r_alloc [_, _] 2 (fun g => [_, _, _, _, ⟨some g, 23, _, 2, true⟩]) rfl rfl z23 rfl rfl (fun _ => rfl) (fun g4 => ?_)
  refine r_store rfl 3 0 [_, _, _, ⟨some g3, 23, _, 2, true⟩, _] [_, _] rfl rfl rfl rfl ti23 rfl rfl rfl rfl rfl ?_
  refine r_store rfl 4 0 [_, _, _, _, ⟨some g4, 23, _, 2, true⟩] [_, _] rfl rfl rfl rfl ti23 rfl rfl rfl rfl rfl ?_
  refine r_assign rfl rfl rfl ?_
  refine run_nil ?_
  refine at_tn ?_
  refine at_seq ?_
  refine at_region ?_
  refine r_load 3 0 [_, _] rfl rfl rfl rfl ti23 rfl rfl rfl rfl ?_
  refine r_store rfl 2 0 [_, _, ⟨some g2, 23, _, 2, true⟩, _, _] [_, _] rfl rfl rfl rfl ti23 rfl rfl rfl rfl rfl ?_
  refine run_nil ?_
  refine at_tn ?_
  refine at_ret ?_
  refine at_end1 rfl (res_cell 2 rfl rfl ti23 (vs := [_, _]) rfl rfl (Nat.le_of_ble_eq_true rfl) rfl) (fun w hL => ⟨?_, hL.below⟩)
  exact rfl
set_option maxRecDepth 20000 in
theorem c_rational_canonical (n d : Int) (hn : szI n ≤ 8388608) (hd : szI d ≤ 8388608) (h0 : d ≠ 0) : PCall Tryz.prog 93 #[I n, I d] (Q (Rat.divInt n d)) := by
  refine ⟨by kernel_rfl, fun w => ?_⟩
  refine calls_at (args := [I n, I d]) Tryz.func93 rfl (Nat.le_of_ble_eq_true rfl) (LRel.nil w) ?_
  show At w ⟨29, [(0, I n), (1, I d)], []⟩ _
  refine at_seq ?_
  refine at_region ?_
  refine r_box [_, _] 2 (fun g => [⟨some g, 23, _, 2, true⟩]) rfl rfl rfl rfl rfl (fun _ => rfl) (fun g0 => ?_)
  refine r_box [_, _] 2 (fun g => [_, ⟨some g, 23, _, 2, true⟩]) rfl rfl rfl rfl rfl (fun _ => rfl) (fun g1 => ?_)
  refine r_alloc [_, _, _, _] 4 (fun g => [_, _, ⟨some g, 25, _, 4, true⟩]) rfl rfl z25 rfl rfl (fun _ => rfl) (fun g2 => ?_)
  refine run_nil ?_
  refine at_tn ?_
  refine at_seq ?_
  refine at_seq ?_
  refine at_region ?_
  refine r_load 1 0 [_, _] rfl rfl rfl rfl ti23 rfl rfl rfl rfl ?_
  refine r_pcall [_] rfl rfl rfl (c_integer_Sign _) ?_
  refine r_cmpInt rfl rfl rfl rfl rfl ?_
  refine run_nil ?_
  refine at_tn ?_
  refine at_cond rfl (fun hb0 => ?_) (fun hb0 => ?_)
  ·
    refine at_drawn (l' := [⟨_,_,_,_,_,_⟩, ⟨_,_,_,_,_,_⟩, ⟨_,_,_,_,_,_⟩, ⟨_,_,_,_,_,_⟩, ⟨_,_,_,_,_,_⟩, ⟨_,_,_,_,_,_⟩]) [] [0, 2, 1, 3, 4, 5] mixed (by kernel_rfl) rfl (by kernel_rfl) ?_
    refine r_load 0 0 [_, _] rfl rfl rfl rfl ti23 rfl rfl rfl rfl ?_
    refine r_load 1 0 [_, _] rfl rfl rfl rfl ti23 rfl rfl rfl rfl ?_
    refine r_pcall [_] rfl rfl rfl (c_integer_Negate _) ?_
    refine r_pcall [_] rfl rfl rfl (c_integer_Negate _) ?_
    refine r_store rfl 0 0 [⟨some g0, 23, _, 2, true⟩, _, _] [_, _] rfl rfl rfl rfl ti23 rfl rfl rfl rfl rfl ?_
    refine r_store rfl 1 0 [_, ⟨some g1, 23, _, 2, true⟩, _] [_, _] rfl rfl rfl rfl ti23 rfl rfl rfl rfl rfl ?_
    refine run_nil ?_
    refine at_tn ?_
    refine at_seq ?_
    refine at_region ?_
    refine r_load 0 0 [_, _] rfl rfl rfl rfl ti23 rfl rfl rfl rfl ?_
    refine r_load 1 0 [_, _] rfl rfl rfl rfl ti23 rfl rfl rfl rfl ?_
    refine r_pcall [_, _] rfl rfl rfl (c_integer_Gcd _ _ (by first | assumption | grind [lI_add, lI_sub, lI_mul, lI_neg, lI_gcd, lI_num, lI_den, lQ_add, lQ_sub, lQ_mul, lQ_div, lQ_neg, l_nb]) (by first | assumption | grind [lI_add, lI_sub, lI_mul, lI_neg, lI_gcd, lI_num, lI_den, lQ_add, lQ_sub, lQ_mul, lQ_div, lQ_neg, l_nb])) ?_
    refine r_alloc [_, _] 2 (fun g => [_, _, _, ⟨some g, 23, _, 2, true⟩]) rfl rfl z23 rfl rfl (fun _ => rfl) (fun g3 => ?_)
    refine r_store rfl 3 0 [_, _, _, ⟨some g3, 23, _, 2, true⟩] [_, _] rfl rfl rfl rfl ti23 rfl rfl rfl rfl rfl ?_
    refine run_nil ?_
    refine at_tn ?_
    refine at_seq ?_
    refine at_drawn (l' := [⟨_,_,_,_,_,_⟩, ⟨_,_,_,_,_,_⟩, ⟨_,_,_,_,_,_⟩, ⟨_,_,_,_,_,_⟩, ⟨_,_,_,_,_,_⟩, ⟨_,_,_,_,_,_⟩, ⟨_,_,_,_,_,_⟩, ⟨_,_,_,_,_,_⟩]) [] [0, 1, 3, 4, 2, 5, 6, 7] mixed (by kernel_rfl) rfl (by kernel_rfl) ?_
    refine r_load 0 0 [_, _] rfl rfl rfl rfl ti23 rfl rfl rfl rfl ?_
    refine r_load 3 0 [_, _] rfl rfl rfl rfl ti23 rfl rfl rfl rfl ?_
    refine r_load 1 0 [_, _] rfl rfl rfl rfl ti23 rfl rfl rfl rfl ?_
    refine r_load 3 0 [_, _] rfl rfl rfl rfl ti23 rfl rfl rfl rfl ?_
    refine r_pcall [_, _] rfl rfl rfl (c_rational_quotient _ _ (by first | assumption | grind [lI_add, lI_sub, lI_mul, lI_neg, lI_gcd, lI_num, lI_den, lQ_add, lQ_sub, lQ_mul, lQ_div, lQ_neg, l_nb]) (by first | assumption | grind [lI_add, lI_sub, lI_mul, lI_neg, lI_gcd, lI_num, lI_den, lQ_add, lQ_sub, lQ_mul, lQ_div, lQ_neg, l_nb]) (gcd_ne (by omega))) ?_
    refine r_pcall [_, _] rfl rfl rfl (c_rational_quotient _ _ (by first | assumption | grind [lI_add, lI_sub, lI_mul, lI_neg, lI_gcd, lI_num, lI_den, lQ_add, lQ_sub, lQ_mul, lQ_div, lQ_neg, l_nb]) (by first | assumption | grind [lI_add, lI_sub, lI_mul, lI_neg, lI_gcd, lI_num, lI_den, lQ_add, lQ_sub, lQ_mul, lQ_div, lQ_neg, l_nb]) (gcd_ne (by omega))) ?_
    refine r_store rfl 0 0 [⟨some g0, 23, _, 2, true⟩, _, _, _] [_, _] rfl rfl rfl rfl ti23 rfl rfl rfl rfl rfl ?_
    refine r_store rfl 1 0 [_, ⟨some g1, 23, _, 2, true⟩, _, _] [_, _] rfl rfl rfl rfl ti23 rfl rfl rfl rfl rfl ?_
    refine run_nil ?_
    refine at_tn ?_
    refine at_seq ?_
    refine at_seq ?_
    refine at_drawn (l' := [⟨_,_,_,_,_,_⟩, ⟨_,_,_,_,_,_⟩, ⟨_,_,_,_,_,_⟩]) [] [0, 1, 2] mixed (by kernel_rfl) rfl (by kernel_rfl) ?_
    refine r_load 1 0 [_, _] rfl rfl rfl rfl ti23 rfl rfl rfl rfl ?_
    refine r_pcall [] rfl rfl rfl (c_rational_one) ?_
    refine r_eqlAgg rfl rfl rfl rfl gd23 (eq23 _ _) ?_
    refine run_nil ?_
    refine at_tn ?_
    refine at_cond rfl (fun hb1 => ?_) (fun hb1 => ?_)
    ·
      refine at_region ?_
      refine r_build [] rfl rfl rfl (bd23_0) ?_
      refine r_store rfl 1 0 [_, ⟨some g1, 23, _, 2, true⟩, _, _] [_, _] rfl rfl rfl rfl ti23 rfl rfl rfl rfl rfl ?_
      refine run_nil ?_
      refine at_tn ?_
      refine at_seq ?_
      refine at_region ?_
      refine r_load 0 0 [_, _] rfl rfl rfl rfl ti23 rfl rfl rfl rfl ?_
      refine r_load 1 0 [_, _] rfl rfl rfl rfl ti23 rfl rfl rfl rfl ?_
      refine r_build [(0, _), (1, _)] rfl rfl rfl (bd25_2) ?_
      refine r_store rfl 2 0 [_, _, ⟨some g2, 25, _, 4, true⟩, _] [_, _, _, _] rfl rfl rfl rfl ti25 rfl rfl rfl rfl rfl ?_
      refine run_nil ?_
      refine at_tn ?_
      refine at_ret ?_
      refine at_end1 rfl (res_cell 2 rfl rfl ti25 (vs := [_, _, _, _]) rfl rfl (Nat.le_of_ble_eq_true rfl) rfl) (fun w hL => ⟨?_, hL.below⟩)
      exact congrArg Ending.returned ((canon_1 (n := -n) (d := -d) (by have := sign_lt hb0; omega) (by simpa using hb1)).trans (by rw [Rat.neg_divInt_neg]))
    ·
      refine at_skip ?_
      refine at_tn ?_
      refine at_seq ?_
      refine at_region ?_
      refine r_load 0 0 [_, _] rfl rfl rfl rfl ti23 rfl rfl rfl rfl ?_
      refine r_load 1 0 [_, _] rfl rfl rfl rfl ti23 rfl rfl rfl rfl ?_
      refine r_build [(0, _), (1, _)] rfl rfl rfl (bd25_2) ?_
      refine r_store rfl 2 0 [_, _, ⟨some g2, 25, _, 4, true⟩, _] [_, _, _, _] rfl rfl rfl rfl ti25 rfl rfl rfl rfl rfl ?_
      refine run_nil ?_
      refine at_tn ?_
      refine at_ret ?_
      refine at_end1 rfl (res_cell 2 rfl rfl ti25 (vs := [_, _, _, _]) rfl rfl (Nat.le_of_ble_eq_true rfl) rfl) (fun w hL => ⟨?_, hL.below⟩)
      exact congrArg Ending.returned ((canon_2 (n := -n) (d := -d) (by have := sign_lt hb0; omega) (by simpa using hb1)).trans (by rw [Rat.neg_divInt_neg]))
  ·
    refine at_skip ?_
    refine at_tn ?_
    refine at_seq ?_
    refine at_region ?_
    refine r_load 0 0 [_, _] rfl rfl rfl rfl ti23 rfl rfl rfl rfl ?_
    refine r_load 1 0 [_, _] rfl rfl rfl rfl ti23 rfl rfl rfl rfl ?_
    refine r_pcall [_, _] rfl rfl rfl (c_integer_Gcd _ _ (by first | assumption | grind [lI_add, lI_sub, lI_mul, lI_neg, lI_gcd, lI_num, lI_den, lQ_add, lQ_sub, lQ_mul, lQ_div, lQ_neg, l_nb]) (by first | assumption | grind [lI_add, lI_sub, lI_mul, lI_neg, lI_gcd, lI_num, lI_den, lQ_add, lQ_sub, lQ_mul, lQ_div, lQ_neg, l_nb])) ?_
    refine r_alloc [_, _] 2 (fun g => [_, _, _, ⟨some g, 23, _, 2, true⟩]) rfl rfl z23 rfl rfl (fun _ => rfl) (fun g3 => ?_)
    refine r_store rfl 3 0 [_, _, _, ⟨some g3, 23, _, 2, true⟩] [_, _] rfl rfl rfl rfl ti23 rfl rfl rfl rfl rfl ?_
    refine run_nil ?_
    refine at_tn ?_
    refine at_seq ?_
    refine at_drawn (l' := [⟨_,_,_,_,_,_⟩, ⟨_,_,_,_,_,_⟩, ⟨_,_,_,_,_,_⟩, ⟨_,_,_,_,_,_⟩, ⟨_,_,_,_,_,_⟩, ⟨_,_,_,_,_,_⟩, ⟨_,_,_,_,_,_⟩, ⟨_,_,_,_,_,_⟩]) [] [0, 1, 3, 4, 2, 5, 6, 7] mixed (by kernel_rfl) rfl (by kernel_rfl) ?_
    refine r_load 0 0 [_, _] rfl rfl rfl rfl ti23 rfl rfl rfl rfl ?_
    refine r_load 3 0 [_, _] rfl rfl rfl rfl ti23 rfl rfl rfl rfl ?_
    refine r_load 1 0 [_, _] rfl rfl rfl rfl ti23 rfl rfl rfl rfl ?_
    refine r_load 3 0 [_, _] rfl rfl rfl rfl ti23 rfl rfl rfl rfl ?_
    refine r_pcall [_, _] rfl rfl rfl (c_rational_quotient _ _ (by first | assumption | grind [lI_add, lI_sub, lI_mul, lI_neg, lI_gcd, lI_num, lI_den, lQ_add, lQ_sub, lQ_mul, lQ_div, lQ_neg, l_nb]) (by first | assumption | grind [lI_add, lI_sub, lI_mul, lI_neg, lI_gcd, lI_num, lI_den, lQ_add, lQ_sub, lQ_mul, lQ_div, lQ_neg, l_nb]) (gcd_ne (by omega))) ?_
    refine r_pcall [_, _] rfl rfl rfl (c_rational_quotient _ _ (by first | assumption | grind [lI_add, lI_sub, lI_mul, lI_neg, lI_gcd, lI_num, lI_den, lQ_add, lQ_sub, lQ_mul, lQ_div, lQ_neg, l_nb]) (by first | assumption | grind [lI_add, lI_sub, lI_mul, lI_neg, lI_gcd, lI_num, lI_den, lQ_add, lQ_sub, lQ_mul, lQ_div, lQ_neg, l_nb]) (gcd_ne (by omega))) ?_
    refine r_store rfl 0 0 [⟨some g0, 23, _, 2, true⟩, _, _, _] [_, _] rfl rfl rfl rfl ti23 rfl rfl rfl rfl rfl ?_
    refine r_store rfl 1 0 [_, ⟨some g1, 23, _, 2, true⟩, _, _] [_, _] rfl rfl rfl rfl ti23 rfl rfl rfl rfl rfl ?_
    refine run_nil ?_
    refine at_tn ?_
    refine at_seq ?_
    refine at_seq ?_
    refine at_drawn (l' := [⟨_,_,_,_,_,_⟩, ⟨_,_,_,_,_,_⟩, ⟨_,_,_,_,_,_⟩]) [] [0, 1, 2] mixed (by kernel_rfl) rfl (by kernel_rfl) ?_
    refine r_load 1 0 [_, _] rfl rfl rfl rfl ti23 rfl rfl rfl rfl ?_
    refine r_pcall [] rfl rfl rfl (c_rational_one) ?_
    refine r_eqlAgg rfl rfl rfl rfl gd23 (eq23 _ _) ?_
    refine run_nil ?_
    refine at_tn ?_
    refine at_cond rfl (fun hb1 => ?_) (fun hb1 => ?_)
    ·
      refine at_region ?_
      refine r_build [] rfl rfl rfl (bd23_0) ?_
      refine r_store rfl 1 0 [_, ⟨some g1, 23, _, 2, true⟩, _, _] [_, _] rfl rfl rfl rfl ti23 rfl rfl rfl rfl rfl ?_
      refine run_nil ?_
      refine at_tn ?_
      refine at_seq ?_
      refine at_region ?_
      refine r_load 0 0 [_, _] rfl rfl rfl rfl ti23 rfl rfl rfl rfl ?_
      refine r_load 1 0 [_, _] rfl rfl rfl rfl ti23 rfl rfl rfl rfl ?_
      refine r_build [(0, _), (1, _)] rfl rfl rfl (bd25_2) ?_
      refine r_store rfl 2 0 [_, _, ⟨some g2, 25, _, 4, true⟩, _] [_, _, _, _] rfl rfl rfl rfl ti25 rfl rfl rfl rfl rfl ?_
      refine run_nil ?_
      refine at_tn ?_
      refine at_ret ?_
      refine at_end1 rfl (res_cell 2 rfl rfl ti25 (vs := [_, _, _, _]) rfl rfl (Nat.le_of_ble_eq_true rfl) rfl) (fun w hL => ⟨?_, hL.below⟩)
      exact congrArg Ending.returned (canon_1 (sign_ge hb0 h0) (by simpa using hb1))
    ·
      refine at_skip ?_
      refine at_tn ?_
      refine at_seq ?_
      refine at_region ?_
      refine r_load 0 0 [_, _] rfl rfl rfl rfl ti23 rfl rfl rfl rfl ?_
      refine r_load 1 0 [_, _] rfl rfl rfl rfl ti23 rfl rfl rfl rfl ?_
      refine r_build [(0, _), (1, _)] rfl rfl rfl (bd25_2) ?_
      refine r_store rfl 2 0 [_, _, ⟨some g2, 25, _, 4, true⟩, _] [_, _, _, _] rfl rfl rfl rfl ti25 rfl rfl rfl rfl rfl ?_
      refine run_nil ?_
      refine at_tn ?_
      refine at_ret ?_
      refine at_end1 rfl (res_cell 2 rfl rfl ti25 (vs := [_, _, _, _]) rfl rfl (Nat.le_of_ble_eq_true rfl) rfl) (fun w hL => ⟨?_, hL.below⟩)
      exact congrArg Ending.returned (canon_2 (sign_ge hb0 h0) (by simpa using hb1))
set_option maxRecDepth 20000 in
theorem c_rational_Den (q : Rat) : PCall Tryz.prog 103 #[Q q] (I q.den) := by
  refine ⟨by kernel_rfl, fun w => ?_⟩
  refine calls_at (args := [Q q]) Tryz.func103 rfl (Nat.le_of_ble_eq_true rfl) (LRel.nil w) ?_
  show At w ⟨10, [(0, Q q)], []⟩ _
  refine at_seq ?_
  refine at_region ?_
  refine r_box [_, _, _, _] 4 (fun g => [⟨some g, 25, _, 4, true⟩]) rfl rfl rfl rfl rfl (fun _ => rfl) (fun g0 => ?_)
  refine r_alloc [_, _] 2 (fun g => [_, ⟨some g, 23, _, 2, true⟩]) rfl rfl z23 rfl rfl (fun _ => rfl) (fun g1 => ?_)
  refine run_nil ?_
  refine at_tn ?_
  refine at_seq ?_
  refine at_seq ?_
  refine at_region ?_
  refine r_fieldAddr 0 0 2 rfl rfl rfl rfl rfl ti25 rfl rfl ?_
  refine r_load 0 2 [_, _] rfl rfl rfl rfl ti23 rfl rfl rfl rfl ?_
  refine r_build [] rfl rfl rfl (bd23_0) ?_
  refine r_eqlAgg rfl rfl rfl rfl gd23 (eq23r _ _ _ _) ?_
  refine run_nil ?_
  refine at_tn ?_
  refine at_cond rfl (fun hb0 => ?_) (fun hb0 => ?_)
  ·
    refine at_seq ?_
    refine at_region ?_
    refine r_pcall [] rfl rfl rfl (c_rational_one) ?_
    refine r_store rfl 1 0 [_, ⟨some g1, 23, _, 2, true⟩] [_, _] rfl rfl rfl rfl ti23 rfl rfl rfl rfl rfl ?_
    refine run_nil ?_
    refine at_tn ?_
    refine at_ret ?_
    refine at_tr ?_
    refine at_end1 rfl (res_cell 1 rfl rfl ti23 (vs := [_, _]) rfl rfl (Nat.le_of_ble_eq_true rfl) rfl) (fun w hL => ⟨?_, hL.below⟩)
    exact congrArg Ending.returned (den_T hb0)
  ·
    refine at_skip ?_
    refine at_tn ?_
    refine at_seq ?_
    refine at_region ?_
    refine r_fieldAddr 0 0 2 rfl rfl rfl rfl rfl ti25 rfl rfl ?_
    refine r_load 0 2 [_, _] rfl rfl rfl rfl ti23 rfl rfl rfl rfl ?_
    refine r_store rfl 1 0 [_, ⟨some g1, 23, _, 2, true⟩] [_, _] rfl rfl rfl rfl ti23 rfl rfl rfl rfl rfl ?_
    refine run_nil ?_
    refine at_tn ?_
    refine at_ret ?_
    refine at_end1 rfl (res_cell 1 rfl rfl ti23 (vs := [_, _]) rfl rfl (Nat.le_of_ble_eq_true rfl) rfl) (fun w hL => ⟨?_, hL.below⟩)
    exact congrArg Ending.returned (den_F hb0)
set_option maxRecDepth 20000 in
theorem c_rational_cross (p q : Rat) (hp : szQ p ≤ 4194303) (hq : szQ q ≤ 4194303) : PCall Tryz.prog 92 #[Q p, Q q] (.tuple #[I (crossX p q), I (crossY p q), I (crossD p q)]) := by
  refine ⟨by kernel_rfl, fun w => ?_⟩
  refine calls_at (args := [Q p, Q q]) Tryz.func92 rfl (Nat.le_of_ble_eq_true rfl) (LRel.nil w) ?_
  show At w ⟨33, [(0, Q p), (1, Q q)], []⟩ _
  refine at_seq ?_
  refine at_region ?_
  refine r_box [_, _, _, _] 4 (fun g => [⟨some g, 25, _, 4, true⟩]) rfl rfl rfl rfl rfl (fun _ => rfl) (fun g0 => ?_)
  refine r_box [_, _, _, _] 4 (fun g => [_, ⟨some g, 25, _, 4, true⟩]) rfl rfl rfl rfl rfl (fun _ => rfl) (fun g1 => ?_)
  refine r_alloc [_, _] 2 (fun g => [_, _, ⟨some g, 23, _, 2, true⟩]) rfl rfl z23 rfl rfl (fun _ => rfl) (fun g2 => ?_)
  refine r_alloc [_, _] 2 (fun g => [_, _, _, ⟨some g, 23, _, 2, true⟩]) rfl rfl z23 rfl rfl (fun _ => rfl) (fun g3 => ?_)
  refine r_alloc [_, _] 2 (fun g => [_, _, _, _, ⟨some g, 23, _, 2, true⟩]) rfl rfl z23 rfl rfl (fun _ => rfl) (fun g4 => ?_)
  refine run_nil ?_
  refine at_tn ?_
  refine at_seq ?_
  refine at_seq ?_
  refine at_region ?_
  refine r_fieldAddr 0 0 2 rfl rfl rfl rfl rfl ti25 rfl rfl ?_
  refine r_load 0 2 [_, _] rfl rfl rfl rfl ti23 rfl rfl rfl rfl ?_
  refine r_fieldAddr 1 0 2 rfl rfl rfl rfl rfl ti25 rfl rfl ?_
  refine r_load 1 2 [_, _] rfl rfl rfl rfl ti23 rfl rfl rfl rfl ?_
  refine r_eqlAgg rfl rfl rfl rfl gd23 (eq23r _ _ _ _) ?_
  refine run_nil ?_
  refine at_tn ?_
  refine at_cond rfl (fun hb0 => ?_) (fun hb0 => ?_)
  ·
    refine at_seq ?_
    refine at_drawn (l' := [⟨_,_,_,_,_,_⟩, ⟨_,_,_,_,_,_⟩, ⟨_,_,_,_,_,_⟩, ⟨_,_,_,_,_,_⟩, ⟨_,_,_,_,_,_⟩, ⟨_,_,_,_,_,_⟩, ⟨_,_,_,_,_,_⟩, ⟨_,_,_,_,_,_⟩, ⟨_,_,_,_,_,_⟩]) [2, 3, 4] [0, 1, 2, 3, 4, 5, 6, 7, 8] mixed (by kernel_rfl) rfl (by kernel_rfl) ?_
    refine r_fieldAddr 0 0 0 rfl rfl rfl rfl rfl ti25 rfl rfl ?_
    refine r_load 0 0 [_, _] rfl rfl rfl rfl ti23 rfl rfl rfl rfl ?_
    refine r_fieldAddr 1 0 0 rfl rfl rfl rfl rfl ti25 rfl rfl ?_
    refine r_load 1 0 [_, _] rfl rfl rfl rfl ti23 rfl rfl rfl rfl ?_
    refine r_load 0 0 [_, _, _, _] rfl rfl rfl rfl ti25 rfl rfl rfl rfl ?_
    refine r_pcall [_] rfl rfl rfl (c_rational_Den _) ?_
    refine r_storeE 2 0 [_, _, ⟨some g2, 23, _, 2, true⟩, _, _] [_, _] rfl rfl rfl rfl ti23 rfl rfl rfl rfl rfl rfl ?_
    refine r_storeE 3 0 [_, _, _, ⟨some g3, 23, _, 2, true⟩, _] [_, _] rfl rfl rfl rfl ti23 rfl rfl rfl rfl rfl rfl ?_
    refine r_storeE 4 0 [_, _, _, _, ⟨some g4, 23, _, 2, true⟩] [_, _] rfl rfl rfl rfl ti23 rfl rfl rfl rfl rfl rfl ?_
    refine run_nil ?_
    refine at_tn ?_
    refine at_ret ?_
    refine at_tr ?_
    refine at_end3 rfl (res_cell 2 rfl rfl ti23 (vs := [_, _]) rfl rfl (Nat.le_of_ble_eq_true rfl) rfl) (res_cell 3 rfl rfl ti23 (vs := [_, _]) rfl rfl (Nat.le_of_ble_eq_true rfl) rfl) (res_cell 4 rfl rfl ti23 (vs := [_, _]) rfl rfl (Nat.le_of_ble_eq_true rfl) rfl) (fun w hL => ⟨?_, hL.below⟩)
    exact congrArg Ending.returned (cross_T hb0)
  ·
    refine at_skip ?_
    refine at_tn ?_
    refine at_seq ?_
    refine at_drawn (l' := [⟨_,_,_,_,_,_⟩, ⟨_,_,_,_,_,_⟩, ⟨_,_,_,_,_,_⟩, ⟨_,_,_,_,_,_⟩, ⟨_,_,_,_,_,_⟩, ⟨_,_,_,_,_,_⟩, ⟨_,_,_,_,_,_⟩, ⟨_,_,_,_,_,_⟩, ⟨_,_,_,_,_,_⟩, ⟨_,_,_,_,_,_⟩, ⟨_,_,_,_,_,_⟩, ⟨_,_,_,_,_,_⟩, ⟨_,_,_,_,_,_⟩, ⟨_,_,_,_,_,_⟩, ⟨_,_,_,_,_,_⟩, ⟨_,_,_,_,_,_⟩, ⟨_,_,_,_,_,_⟩, ⟨_,_,_,_,_,_⟩]) [] [0, 1, 2, 5, 6, 7, 10, 12, 3, 4, 8, 9, 11, 13, 14, 15, 16, 17] mixed (by kernel_rfl) rfl (by kernel_rfl) ?_
    refine r_fieldAddr 0 0 0 rfl rfl rfl rfl rfl ti25 rfl rfl ?_
    refine r_load 0 0 [_, _] rfl rfl rfl rfl ti23 rfl rfl rfl rfl ?_
    refine r_load 1 0 [_, _, _, _] rfl rfl rfl rfl ti25 rfl rfl rfl rfl ?_
    refine r_fieldAddr 1 0 0 rfl rfl rfl rfl rfl ti25 rfl rfl ?_
    refine r_load 1 0 [_, _] rfl rfl rfl rfl ti23 rfl rfl rfl rfl ?_
    refine r_load 0 0 [_, _, _, _] rfl rfl rfl rfl ti25 rfl rfl rfl rfl ?_
    refine r_load 0 0 [_, _, _, _] rfl rfl rfl rfl ti25 rfl rfl rfl rfl ?_
    refine r_load 1 0 [_, _, _, _] rfl rfl rfl rfl ti25 rfl rfl rfl rfl ?_
    refine r_pcall [_] rfl rfl rfl (c_rational_Den _) ?_
    refine r_pcall [_, _] rfl rfl rfl (c_integer_Mul _ _ (by first | assumption | grind [lI_add, lI_sub, lI_mul, lI_neg, lI_gcd, lI_num, lI_den, lQ_add, lQ_sub, lQ_mul, lQ_div, lQ_neg, l_nb]) (by first | assumption | grind [lI_add, lI_sub, lI_mul, lI_neg, lI_gcd, lI_num, lI_den, lQ_add, lQ_sub, lQ_mul, lQ_div, lQ_neg, l_nb])) ?_
    refine r_pcall [_] rfl rfl rfl (c_rational_Den _) ?_
    refine r_pcall [_, _] rfl rfl rfl (c_integer_Mul _ _ (by first | assumption | grind [lI_add, lI_sub, lI_mul, lI_neg, lI_gcd, lI_num, lI_den, lQ_add, lQ_sub, lQ_mul, lQ_div, lQ_neg, l_nb]) (by first | assumption | grind [lI_add, lI_sub, lI_mul, lI_neg, lI_gcd, lI_num, lI_den, lQ_add, lQ_sub, lQ_mul, lQ_div, lQ_neg, l_nb])) ?_
    refine r_pcall [_] rfl rfl rfl (c_rational_Den _) ?_
    refine r_pcall [_] rfl rfl rfl (c_rational_Den _) ?_
    refine r_pcall [_, _] rfl rfl rfl (c_integer_Mul _ _ (by first | assumption | grind [lI_add, lI_sub, lI_mul, lI_neg, lI_gcd, lI_num, lI_den, lQ_add, lQ_sub, lQ_mul, lQ_div, lQ_neg, l_nb]) (by first | assumption | grind [lI_add, lI_sub, lI_mul, lI_neg, lI_gcd, lI_num, lI_den, lQ_add, lQ_sub, lQ_mul, lQ_div, lQ_neg, l_nb])) ?_
    refine r_store rfl 2 0 [_, _, ⟨some g2, 23, _, 2, true⟩, _, _] [_, _] rfl rfl rfl rfl ti23 rfl rfl rfl rfl rfl ?_
    refine r_store rfl 3 0 [_, _, _, ⟨some g3, 23, _, 2, true⟩, _] [_, _] rfl rfl rfl rfl ti23 rfl rfl rfl rfl rfl ?_
    refine r_store rfl 4 0 [_, _, _, _, ⟨some g4, 23, _, 2, true⟩] [_, _] rfl rfl rfl rfl ti23 rfl rfl rfl rfl rfl ?_
    refine run_nil ?_
    refine at_tn ?_
    refine at_ret ?_
    refine at_end3 rfl (res_cell 2 rfl rfl ti23 (vs := [_, _]) rfl rfl (Nat.le_of_ble_eq_true rfl) rfl) (res_cell 3 rfl rfl ti23 (vs := [_, _]) rfl rfl (Nat.le_of_ble_eq_true rfl) rfl) (res_cell 4 rfl rfl ti23 (vs := [_, _]) rfl rfl (Nat.le_of_ble_eq_true rfl) rfl) (fun w hL => ⟨?_, hL.below⟩)
    exact congrArg Ending.returned (cross_F hb0)
set_option maxRecDepth 20000 in
theorem c_rational_Add (p q : Rat) (hp : szQ p ≤ 4194303) (hq : szQ q ≤ 4194303) : PCall Tryz.prog 59 #[Q p, Q q] (Q (p + q)) := by
  refine ⟨by kernel_rfl, fun w => ?_⟩
  refine calls_at (args := [Q p, Q q]) Tryz.func59 rfl (Nat.le_of_ble_eq_true rfl) (LRel.nil w) ?_
  show At w ⟨20, [(0, Q p), (1, Q q)], []⟩ _
  refine at_seq ?_
  refine at_region ?_
  refine r_box [_, _, _, _] 4 (fun g => [⟨some g, 25, _, 4, true⟩]) rfl rfl rfl rfl rfl (fun _ => rfl) (fun g0 => ?_)
  refine r_box [_, _, _, _] 4 (fun g => [_, ⟨some g, 25, _, 4, true⟩]) rfl rfl rfl rfl rfl (fun _ => rfl) (fun g1 => ?_)
  refine r_alloc [_, _, _, _] 4 (fun g => [_, _, ⟨some g, 25, _, 4, true⟩]) rfl rfl z25 rfl rfl (fun _ => rfl) (fun g2 => ?_)
  refine run_nil ?_
  refine at_tn ?_
  refine at_seq ?_
  refine at_region ?_
  refine r_load 0 0 [_, _, _, _] rfl rfl rfl rfl ti25 rfl rfl rfl rfl ?_
  refine r_load 1 0 [_, _, _, _] rfl rfl rfl rfl ti25 rfl rfl rfl rfl ?_
  refine r_pcall [_, _] rfl rfl rfl (c_rational_cross _ _ (by first | assumption | grind [lI_add, lI_sub, lI_mul, lI_neg, lI_gcd, lI_num, lI_den, lQ_add, lQ_sub, lQ_mul, lQ_div, lQ_neg, l_nb]) (by first | assumption | grind [lI_add, lI_sub, lI_mul, lI_neg, lI_gcd, lI_num, lI_den, lQ_add, lQ_sub, lQ_mul, lQ_div, lQ_neg, l_nb])) ?_
  refine r_move rfl rfl rfl ?_
  refine r_extract (vs := [_, _, _]) rfl rfl rfl rfl ?_
  refine r_extract (vs := [_, _, _]) rfl rfl rfl rfl ?_
  refine r_extract (vs := [_, _, _]) rfl rfl rfl rfl ?_
  refine r_alloc [_, _] 2 (fun g => [_, _, _, ⟨some g, 23, _, 2, true⟩]) rfl rfl z23 rfl rfl (fun _ => rfl) (fun g3 => ?_)
  refine r_alloc [_, _] 2 (fun g => [_, _, _, _, ⟨some g, 23, _, 2, true⟩]) rfl rfl z23 rfl rfl (fun _ => rfl) (fun g4 => ?_)
  refine r_alloc [_, _] 2 (fun g => [_, _, _, _, _, ⟨some g, 23, _, 2, true⟩]) rfl rfl z23 rfl rfl (fun _ => rfl) (fun g5 => ?_)
  refine r_store rfl 3 0 [_, _, _, ⟨some g3, 23, _, 2, true⟩, _, _] [_, _] rfl rfl rfl rfl ti23 rfl rfl rfl rfl rfl ?_
  refine r_store rfl 4 0 [_, _, _, _, ⟨some g4, 23, _, 2, true⟩, _] [_, _] rfl rfl rfl rfl ti23 rfl rfl rfl rfl rfl ?_
  refine r_store rfl 5 0 [_, _, _, _, _, ⟨some g5, 23, _, 2, true⟩] [_, _] rfl rfl rfl rfl ti23 rfl rfl rfl rfl rfl ?_
  refine run_nil ?_
  refine at_tn ?_
  refine at_seq ?_
  refine at_drawn (l' := [⟨_,_,_,_,_,_⟩, ⟨_,_,_,_,_,_⟩, ⟨_,_,_,_,_,_⟩, ⟨_,_,_,_,_,_⟩, ⟨_,_,_,_,_,_⟩, ⟨_,_,_,_,_,_⟩]) [] [0, 1, 3, 2, 4, 5] mixed (by kernel_rfl) rfl (by kernel_rfl) ?_
  refine r_load 3 0 [_, _] rfl rfl rfl rfl ti23 rfl rfl rfl rfl ?_
  refine r_load 4 0 [_, _] rfl rfl rfl rfl ti23 rfl rfl rfl rfl ?_
  refine r_load 5 0 [_, _] rfl rfl rfl rfl ti23 rfl rfl rfl rfl ?_
  refine r_pcall [_, _] rfl rfl rfl (c_integer_Add _ _ (Nat.le_trans (szX hp hq) (Nat.le_of_ble_eq_true rfl)) (Nat.le_trans (szY hp hq) (Nat.le_of_ble_eq_true rfl))) ?_
  refine r_pcall [_, _] rfl rfl rfl (c_rational_canonical _ _ (Nat.le_trans (szXY hp hq) (Nat.le_of_ble_eq_true rfl)) (Nat.le_trans (szD hp hq) (Nat.le_of_ble_eq_true rfl)) (crossD_ne p q)) ?_
  refine r_store rfl 2 0 [_, _, ⟨some g2, 25, _, 4, true⟩, _, _, _] [_, _, _, _] rfl rfl rfl rfl ti25 rfl rfl rfl rfl rfl ?_
  refine run_nil ?_
  refine at_tn ?_
  refine at_ret ?_
  refine at_end1 rfl (res_cell 2 rfl rfl ti25 (vs := [_, _, _, _]) rfl rfl (Nat.le_of_ble_eq_true rfl) rfl) (fun w hL => ⟨?_, hL.below⟩)
  exact congrArg (fun z => Ending.returned (Q z)) (cross_add p q)
set_option maxRecDepth 20000 in
theorem c_rational_Neg (q : Rat) : PCall Tryz.prog 101 #[Q q] (Q (-q)) := by
  refine ⟨by kernel_rfl, fun w => ?_⟩
  refine calls_at (args := [Q q]) Tryz.func101 rfl (Nat.le_of_ble_eq_true rfl) (LRel.nil w) ?_
  show At w ⟨9, [(0, Q q)], []⟩ _
  refine at_seq ?_
  refine at_region ?_
  refine r_box [_, _, _, _] 4 (fun g => [⟨some g, 25, _, 4, true⟩]) rfl rfl rfl rfl rfl (fun _ => rfl) (fun g0 => ?_)
  refine r_alloc [_, _, _, _] 4 (fun g => [_, ⟨some g, 25, _, 4, true⟩]) rfl rfl z25 rfl rfl (fun _ => rfl) (fun g1 => ?_)
  refine run_nil ?_
  refine at_tn ?_
  refine at_seq ?_
  refine at_drawn (l' := [⟨_,_,_,_,_,_⟩, ⟨_,_,_,_,_,_⟩, ⟨_,_,_,_,_,_⟩, ⟨_,_,_,_,_,_⟩, ⟨_,_,_,_,_,_⟩, ⟨_,_,_,_,_,_⟩, ⟨_,_,_,_,_,_⟩]) [] [0, 1, 3, 4, 2, 5, 6] mixed (by kernel_rfl) rfl (by kernel_rfl) ?_
  refine r_fieldAddr 0 0 0 rfl rfl rfl rfl rfl ti25 rfl rfl ?_
  refine r_load 0 0 [_, _] rfl rfl rfl rfl ti23 rfl rfl rfl rfl ?_
  refine r_fieldAddr 0 0 2 rfl rfl rfl rfl rfl ti25 rfl rfl ?_
  refine r_load 0 2 [_, _] rfl rfl rfl rfl ti23 rfl rfl rfl rfl ?_
  refine r_pcall [_] rfl rfl rfl (c_integer_Negate _) ?_
  refine r_build [(0, _), (1, _)] rfl rfl rfl (bd25_2) ?_
  refine r_store rfl 1 0 [_, ⟨some g1, 25, _, 4, true⟩] [_, _, _, _] rfl rfl rfl rfl ti25 rfl rfl rfl rfl rfl ?_
  refine run_nil ?_
  refine at_tn ?_
  refine at_ret ?_
  refine at_end1 rfl (res_cell 1 rfl rfl ti25 (vs := [_, _, _, _]) rfl rfl (Nat.le_of_ble_eq_true rfl) rfl) (fun w hL => ⟨?_, hL.below⟩)
  exact rfl
set_option maxRecDepth 20000 in
theorem c_rational_Sub (p q : Rat) (hp : szQ p ≤ 4194303) (hq : szQ q ≤ 4194303) : PCall Tryz.prog 61 #[Q p, Q q] (Q (p - q)) := by
  refine ⟨by kernel_rfl, fun w => ?_⟩
  refine calls_at (args := [Q p, Q q]) Tryz.func61 rfl (Nat.le_of_ble_eq_true rfl) (LRel.nil w) ?_
  show At w ⟨9, [(0, Q p), (1, Q q)], []⟩ _
  refine at_seq ?_
  refine at_region ?_
  refine r_box [_, _, _, _] 4 (fun g => [⟨some g, 25, _, 4, true⟩]) rfl rfl rfl rfl rfl (fun _ => rfl) (fun g0 => ?_)
  refine r_box [_, _, _, _] 4 (fun g => [_, ⟨some g, 25, _, 4, true⟩]) rfl rfl rfl rfl rfl (fun _ => rfl) (fun g1 => ?_)
  refine r_alloc [_, _, _, _] 4 (fun g => [_, _, ⟨some g, 25, _, 4, true⟩]) rfl rfl z25 rfl rfl (fun _ => rfl) (fun g2 => ?_)
  refine run_nil ?_
  refine at_tn ?_
  refine at_seq ?_
  refine at_drawn (l' := [⟨_,_,_,_,_,_⟩, ⟨_,_,_,_,_,_⟩, ⟨_,_,_,_,_,_⟩, ⟨_,_,_,_,_,_⟩, ⟨_,_,_,_,_,_⟩]) [] [0, 1, 2, 3, 4] mixed (by kernel_rfl) rfl (by kernel_rfl) ?_
  refine r_load 0 0 [_, _, _, _] rfl rfl rfl rfl ti25 rfl rfl rfl rfl ?_
  refine r_load 1 0 [_, _, _, _] rfl rfl rfl rfl ti25 rfl rfl rfl rfl ?_
  refine r_pcall [_] rfl rfl rfl (c_rational_Neg _) ?_
  refine r_pcall [_, _] rfl rfl rfl (c_rational_Add _ _ (by first | assumption | grind [lI_add, lI_sub, lI_mul, lI_neg, lI_gcd, lI_num, lI_den, lQ_add, lQ_sub, lQ_mul, lQ_div, lQ_neg, l_nb]) (by first | assumption | grind [lI_add, lI_sub, lI_mul, lI_neg, lI_gcd, lI_num, lI_den, lQ_add, lQ_sub, lQ_mul, lQ_div, lQ_neg, l_nb])) ?_
  refine r_store rfl 2 0 [_, _, ⟨some g2, 25, _, 4, true⟩] [_, _, _, _] rfl rfl rfl rfl ti25 rfl rfl rfl rfl rfl ?_
  refine run_nil ?_
  refine at_tn ?_
  refine at_ret ?_
  refine at_end1 rfl (res_cell 2 rfl rfl ti25 (vs := [_, _, _, _]) rfl rfl (Nat.le_of_ble_eq_true rfl) rfl) (fun w hL => ⟨?_, hL.below⟩)
  exact congrArg (fun z => Ending.returned (Q z)) (Rat.sub_eq_add_neg p q).symm
set_option maxRecDepth 20000 in
theorem c_rational_Mul (p q : Rat) (hp : szQ p ≤ 4194303) (hq : szQ q ≤ 4194303) : PCall Tryz.prog 62 #[Q p, Q q] (Q (p * q)) := by
  refine ⟨by kernel_rfl, fun w => ?_⟩
  refine calls_at (args := [Q p, Q q]) Tryz.func62 rfl (Nat.le_of_ble_eq_true rfl) (LRel.nil w) ?_
  show At w ⟨16, [(0, Q p), (1, Q q)], []⟩ _
  refine at_seq ?_
  refine at_region ?_
  refine r_box [_, _, _, _] 4 (fun g => [⟨some g, 25, _, 4, true⟩]) rfl rfl rfl rfl rfl (fun _ => rfl) (fun g0 => ?_)
  refine r_box [_, _, _, _] 4 (fun g => [_, ⟨some g, 25, _, 4, true⟩]) rfl rfl rfl rfl rfl (fun _ => rfl) (fun g1 => ?_)
  refine r_alloc [_, _, _, _] 4 (fun g => [_, _, ⟨some g, 25, _, 4, true⟩]) rfl rfl z25 rfl rfl (fun _ => rfl) (fun g2 => ?_)
  refine run_nil ?_
  refine at_tn ?_
  refine at_seq ?_
  refine at_drawn (l' := [⟨_,_,_,_,_,_⟩, ⟨_,_,_,_,_,_⟩, ⟨_,_,_,_,_,_⟩, ⟨_,_,_,_,_,_⟩, ⟨_,_,_,_,_,_⟩, ⟨_,_,_,_,_,_⟩, ⟨_,_,_,_,_,_⟩, ⟨_,_,_,_,_,_⟩, ⟨_,_,_,_,_,_⟩, ⟨_,_,_,_,_,_⟩, ⟨_,_,_,_,_,_⟩, ⟨_,_,_,_,_,_⟩]) [] [0, 1, 2, 3, 5, 7, 4, 6, 8, 9, 10, 11] mixed (by kernel_rfl) rfl (by kernel_rfl) ?_
  refine r_fieldAddr 0 0 0 rfl rfl rfl rfl rfl ti25 rfl rfl ?_
  refine r_load 0 0 [_, _] rfl rfl rfl rfl ti23 rfl rfl rfl rfl ?_
  refine r_fieldAddr 1 0 0 rfl rfl rfl rfl rfl ti25 rfl rfl ?_
  refine r_load 1 0 [_, _] rfl rfl rfl rfl ti23 rfl rfl rfl rfl ?_
  refine r_load 0 0 [_, _, _, _] rfl rfl rfl rfl ti25 rfl rfl rfl rfl ?_
  refine r_load 1 0 [_, _, _, _] rfl rfl rfl rfl ti25 rfl rfl rfl rfl ?_
  refine r_pcall [_, _] rfl rfl rfl (c_integer_Mul _ _ (by first | assumption | grind [lI_add, lI_sub, lI_mul, lI_neg, lI_gcd, lI_num, lI_den, lQ_add, lQ_sub, lQ_mul, lQ_div, lQ_neg, l_nb]) (by first | assumption | grind [lI_add, lI_sub, lI_mul, lI_neg, lI_gcd, lI_num, lI_den, lQ_add, lQ_sub, lQ_mul, lQ_div, lQ_neg, l_nb])) ?_
  refine r_pcall [_] rfl rfl rfl (c_rational_Den _) ?_
  refine r_pcall [_] rfl rfl rfl (c_rational_Den _) ?_
  refine r_pcall [_, _] rfl rfl rfl (c_integer_Mul _ _ (by first | assumption | grind [lI_add, lI_sub, lI_mul, lI_neg, lI_gcd, lI_num, lI_den, lQ_add, lQ_sub, lQ_mul, lQ_div, lQ_neg, l_nb]) (by first | assumption | grind [lI_add, lI_sub, lI_mul, lI_neg, lI_gcd, lI_num, lI_den, lQ_add, lQ_sub, lQ_mul, lQ_div, lQ_neg, l_nb])) ?_
  refine r_pcall [_, _] rfl rfl rfl (c_rational_canonical _ _ (by first | assumption | grind [lI_add, lI_sub, lI_mul, lI_neg, lI_gcd, lI_num, lI_den, lQ_add, lQ_sub, lQ_mul, lQ_div, lQ_neg, l_nb]) (by first | assumption | grind [lI_add, lI_sub, lI_mul, lI_neg, lI_gcd, lI_num, lI_den, lQ_add, lQ_sub, lQ_mul, lQ_div, lQ_neg, l_nb]) (den_mul_ne p q)) ?_
  refine r_store rfl 2 0 [_, _, ⟨some g2, 25, _, 4, true⟩] [_, _, _, _] rfl rfl rfl rfl ti25 rfl rfl rfl rfl rfl ?_
  refine run_nil ?_
  refine at_tn ?_
  refine at_ret ?_
  refine at_end1 rfl (res_cell 2 rfl rfl ti25 (vs := [_, _, _, _]) rfl rfl (Nat.le_of_ble_eq_true rfl) rfl) (fun w hL => ⟨?_, hL.below⟩)
  exact congrArg (fun z => Ending.returned (Q z)) (mul_divInt p q)
set_option maxRecDepth 20000 in
theorem c_rational_Sign (q : Rat) : PCall Tryz.prog 78 #[Q q] (.int .i64 q.num.sign) := by
  refine ⟨by kernel_rfl, fun w => ?_⟩
  refine calls_at (args := [Q q]) Tryz.func78 rfl (Nat.le_of_ble_eq_true rfl) (LRel.nil w) ?_
  show At w ⟨6, [(0, Q q)], []⟩ _
  refine at_seq ?_
  refine at_region ?_
  refine r_box [_, _, _, _] 4 (fun g => [⟨some g, 25, _, 4, true⟩]) rfl rfl rfl rfl rfl (fun _ => rfl) (fun g0 => ?_)
  refine r_assign rfl rfl rfl ?_
  refine run_nil ?_
  refine at_tn ?_
  refine at_seq ?_
  refine at_region ?_
  refine r_fieldAddr 0 0 0 rfl rfl rfl rfl rfl ti25 rfl rfl ?_
  refine r_load 0 0 [_, _] rfl rfl rfl rfl ti23 rfl rfl rfl rfl ?_
  refine r_pcall [_] rfl rfl rfl (c_integer_Sign _) ?_
  refine r_assign rfl rfl rfl ?_
  refine run_nil ?_
  refine at_tn ?_
  refine at_ret ?_
  refine at_end1 rfl (res_tmp rfl) (fun w hL => ⟨?_, hL.below⟩)
  exact rfl
set_option maxRecDepth 20000 in
theorem c_rational_Make (n d : Int) (hn : szI n ≤ 8388608) (hd : szI d ≤ 8388608) : PCall Tryz.prog 106 #[I n, I d] (.tuple #[Q (Rat.divInt n d), .int .i64 (if d = 0 then 6 else 0)]) := by
  refine ⟨by kernel_rfl, fun w => ?_⟩
  refine calls_at (args := [I n, I d]) Tryz.func106 rfl (Nat.le_of_ble_eq_true rfl) (LRel.nil w) ?_
  show At w ⟨13, [(0, I n), (1, I d)], []⟩ _
  refine at_seq ?_
  refine at_region ?_
  refine r_box [_, _] 2 (fun g => [⟨some g, 23, _, 2, true⟩]) rfl rfl rfl rfl rfl (fun _ => rfl) (fun g0 => ?_)
  refine r_box [_, _] 2 (fun g => [_, ⟨some g, 23, _, 2, true⟩]) rfl rfl rfl rfl rfl (fun _ => rfl) (fun g1 => ?_)
  refine r_alloc [_, _, _, _] 4 (fun g => [_, _, ⟨some g, 25, _, 4, true⟩]) rfl rfl z25 rfl rfl (fun _ => rfl) (fun g2 => ?_)
  refine r_assign rfl rfl rfl ?_
  refine run_nil ?_
  refine at_tn ?_
  refine at_seq ?_
  refine at_seq ?_
  refine at_region ?_
  refine r_load 1 0 [_, _] rfl rfl rfl rfl ti23 rfl rfl rfl rfl ?_
  refine r_pcall [_] rfl rfl rfl (c_integer_Sign _) ?_
  refine r_cmpInt rfl rfl rfl rfl rfl ?_
  refine run_nil ?_
  refine at_tn ?_
  refine at_cond rfl (fun hb0 => ?_) (fun hb0 => ?_)
  ·
    refine at_seq ?_
    refine at_region ?_
    refine r_build [] rfl rfl rfl (bd25_0) ?_
    refine r_store rfl 2 0 [_, _, ⟨some g2, 25, _, 4, true⟩] [_, _, _, _] rfl rfl rfl rfl ti25 rfl rfl rfl rfl rfl ?_
    refine r_assign rfl rfl rfl ?_
    refine run_nil ?_
    refine at_tn ?_
    refine at_ret ?_
    refine at_tr ?_
    refine at_end2 rfl (res_cell 2 rfl rfl ti25 (vs := [_, _, _, _]) rfl rfl (Nat.le_of_ble_eq_true rfl) rfl) (res_tmp rfl) (fun w hL => ⟨?_, hL.below⟩)
    have e : d = 0 := by simpa using hb0
    subst e; rw [Rat.divInt_zero, if_pos rfl, Q_zero]
  ·
    refine at_skip ?_
    refine at_tn ?_
    refine at_seq ?_
    refine at_region ?_
    refine r_load 0 0 [_, _] rfl rfl rfl rfl ti23 rfl rfl rfl rfl ?_
    refine r_load 1 0 [_, _] rfl rfl rfl rfl ti23 rfl rfl rfl rfl ?_
    refine r_pcall [_, _] rfl rfl rfl (c_rational_canonical _ _ hn hd (fun e => absurd (show (d.sign == 0) = true by rw [e]; rfl) (by rw [hb0]; decide))) ?_
    refine r_store rfl 2 0 [_, _, ⟨some g2, 25, _, 4, true⟩] [_, _, _, _] rfl rfl rfl rfl ti25 rfl rfl rfl rfl rfl ?_
    refine r_assign rfl rfl rfl ?_
    refine run_nil ?_
    refine at_tn ?_
    refine at_ret ?_
    refine at_end2 rfl (res_cell 2 rfl rfl ti25 (vs := [_, _, _, _]) rfl rfl (Nat.le_of_ble_eq_true rfl) rfl) (res_tmp rfl) (fun w hL => ⟨?_, hL.below⟩)
    rw [if_neg (fun e => absurd (show (d.sign == 0) = true by rw [e]; rfl) (by rw [hb0]; decide))]; rfl
set_option maxRecDepth 20000 in
theorem c_rational_Div (p q : Rat) (hp : szQ p ≤ 4194303) (hq : szQ q ≤ 4194303) : PCall Tryz.prog 72 #[Q p, Q q] (.tuple #[Q (p / q), .int .i64 (if q = 0 then 6 else 0)]) := by
  refine ⟨by kernel_rfl, fun w => ?_⟩
  refine calls_at (args := [Q p, Q q]) Tryz.func72 rfl (Nat.le_of_ble_eq_true rfl) (LRel.nil w) ?_
  show At w ⟨19, [(0, Q p), (1, Q q)], []⟩ _
  refine at_seq ?_
  refine at_region ?_
  refine r_box [_, _, _, _] 4 (fun g => [⟨some g, 25, _, 4, true⟩]) rfl rfl rfl rfl rfl (fun _ => rfl) (fun g0 => ?_)
  refine r_box [_, _, _, _] 4 (fun g => [_, ⟨some g, 25, _, 4, true⟩]) rfl rfl rfl rfl rfl (fun _ => rfl) (fun g1 => ?_)
  refine r_alloc [_, _, _, _] 4 (fun g => [_, _, ⟨some g, 25, _, 4, true⟩]) rfl rfl z25 rfl rfl (fun _ => rfl) (fun g2 => ?_)
  refine r_assign rfl rfl rfl ?_
  refine run_nil ?_
  refine at_tn ?_
  refine at_seq ?_
  refine at_drawn (l' := [⟨_,_,_,_,_,_⟩, ⟨_,_,_,_,_,_⟩, ⟨_,_,_,_,_,_⟩, ⟨_,_,_,_,_,_⟩, ⟨_,_,_,_,_,_⟩, ⟨_,_,_,_,_,_⟩, ⟨_,_,_,_,_,_⟩, ⟨_,_,_,_,_,_⟩, ⟨_,_,_,_,_,_⟩, ⟨_,_,_,_,_,_⟩, ⟨_,_,_,_,_,_⟩, ⟨_,_,_,_,_,_⟩, ⟨_,_,_,_,_,_⟩, ⟨_,_,_,_,_,_⟩, ⟨_,_,_,_,_,_⟩]) [] [0, 1, 2, 5, 7, 8, 3, 4, 6, 9, 10, 11, 12, 13, 14] mixed (by kernel_rfl) rfl (by kernel_rfl) ?_
  refine r_fieldAddr 0 0 0 rfl rfl rfl rfl rfl ti25 rfl rfl ?_
  refine r_load 0 0 [_, _] rfl rfl rfl rfl ti23 rfl rfl rfl rfl ?_
  refine r_load 1 0 [_, _, _, _] rfl rfl rfl rfl ti25 rfl rfl rfl rfl ?_
  refine r_load 0 0 [_, _, _, _] rfl rfl rfl rfl ti25 rfl rfl rfl rfl ?_
  refine r_fieldAddr 1 0 0 rfl rfl rfl rfl rfl ti25 rfl rfl ?_
  refine r_load 1 0 [_, _] rfl rfl rfl rfl ti23 rfl rfl rfl rfl ?_
  refine r_pcall [_] rfl rfl rfl (c_rational_Den _) ?_
  refine r_pcall [_, _] rfl rfl rfl (c_integer_Mul _ _ (by first | assumption | grind [lI_add, lI_sub, lI_mul, lI_neg, lI_gcd, lI_num, lI_den, lQ_add, lQ_sub, lQ_mul, lQ_div, lQ_neg, l_nb]) (by first | assumption | grind [lI_add, lI_sub, lI_mul, lI_neg, lI_gcd, lI_num, lI_den, lQ_add, lQ_sub, lQ_mul, lQ_div, lQ_neg, l_nb])) ?_
  refine r_pcall [_] rfl rfl rfl (c_rational_Den _) ?_
  refine r_pcall [_, _] rfl rfl rfl (c_integer_Mul _ _ (by first | assumption | grind [lI_add, lI_sub, lI_mul, lI_neg, lI_gcd, lI_num, lI_den, lQ_add, lQ_sub, lQ_mul, lQ_div, lQ_neg, l_nb]) (by first | assumption | grind [lI_add, lI_sub, lI_mul, lI_neg, lI_gcd, lI_num, lI_den, lQ_add, lQ_sub, lQ_mul, lQ_div, lQ_neg, l_nb])) ?_
  refine r_pcall [_, _] rfl rfl rfl (c_rational_Make _ _ (by first | assumption | grind [lI_add, lI_sub, lI_mul, lI_neg, lI_gcd, lI_num, lI_den, lQ_add, lQ_sub, lQ_mul, lQ_div, lQ_neg, l_nb]) (by first | assumption | grind [lI_add, lI_sub, lI_mul, lI_neg, lI_gcd, lI_num, lI_den, lQ_add, lQ_sub, lQ_mul, lQ_div, lQ_neg, l_nb])) ?_
  refine r_extract (vs := [_, _]) rfl rfl rfl rfl ?_
  refine r_extract (vs := [_, _]) rfl rfl rfl rfl ?_
  refine r_store rfl 2 0 [_, _, ⟨some g2, 25, _, 4, true⟩] [_, _, _, _] rfl rfl rfl rfl ti25 rfl rfl rfl rfl rfl ?_
  refine r_assign rfl rfl rfl ?_
  refine run_nil ?_
  refine at_tn ?_
  refine at_ret ?_
  refine at_end2 rfl (res_cell 2 rfl rfl ti25 (vs := [_, _, _, _]) rfl rfl (Nat.le_of_ble_eq_true rfl) rfl) (res_tmp rfl) (fun w hL => ⟨?_, hL.below⟩)
  rw [← div_divInt p q, div_err p q]; rfl
set_option maxRecDepth 20000 in
theorem c_rational_FromInt (z : Int) (h1 : -9223372036854775808 ≤ z) (h2 : z ≤ 9223372036854775807) : PCall Tryz.prog 75 #[.int .i64 z] (Q (z : Rat)) := by
  refine ⟨by kernel_rfl, fun w => ?_⟩
  refine calls_at (args := [.int .i64 z]) Tryz.func75 rfl (Nat.le_of_ble_eq_true rfl) (LRel.nil w) ?_
  show At w ⟨6, [(0, .int .i64 z)], []⟩ _
  refine at_seq ?_
  refine at_region ?_
  refine r_alloc [_, _, _, _] 4 (fun g => [⟨some g, 25, _, 4, true⟩]) rfl rfl z25 rfl rfl (fun _ => rfl) (fun g0 => ?_)
  refine run_nil ?_
  refine at_tn ?_
  refine at_seq ?_
  refine at_region ?_
  refine r_move rfl rfl rfl ?_
  refine r_pcall [_] rfl rfl rfl (c_integer_FromInt _ (by omega) (by omega)) ?_
  refine r_build [(0, _)] rfl rfl rfl (bd25_1) ?_
  refine r_store rfl 0 0 [⟨some g0, 25, _, 4, true⟩] [_, _, _, _] rfl rfl rfl rfl ti25 rfl rfl rfl rfl rfl ?_
  refine run_nil ?_
  refine at_tn ?_
  refine at_ret ?_
  refine at_end1 rfl (res_cell 0 rfl rfl ti25 (vs := [_, _, _, _]) rfl rfl (Nat.le_of_ble_eq_true rfl) rfl) (fun w hL => ⟨?_, hL.below⟩)
  exact rfl
set_option maxRecDepth 20000 in
theorem c_rational_Compare (p q : Rat) (hp : szQ p ≤ 4194303) (hq : szQ q ≤ 4194303) : PCall Tryz.prog 71 #[Q p, Q q] (.int .i64 (cmpQ p q)) := by
  refine ⟨by kernel_rfl, fun w => ?_⟩
  refine calls_at (args := [Q p, Q q]) Tryz.func71 rfl (Nat.le_of_ble_eq_true rfl) (LRel.nil w) ?_
  show At w ⟨21, [(0, Q p), (1, Q q)], []⟩ _
  refine at_seq ?_
  refine at_region ?_
  refine r_box [_, _, _, _] 4 (fun g => [⟨some g, 25, _, 4, true⟩]) rfl rfl rfl rfl rfl (fun _ => rfl) (fun g0 => ?_)
  refine r_box [_, _, _, _] 4 (fun g => [_, ⟨some g, 25, _, 4, true⟩]) rfl rfl rfl rfl rfl (fun _ => rfl) (fun g1 => ?_)
  refine r_assign rfl rfl rfl ?_
  refine run_nil ?_
  refine at_tn ?_
  refine at_seq ?_
  refine at_seq ?_
  refine at_region ?_
  refine r_load 0 0 [_, _, _, _] rfl rfl rfl rfl ti25 rfl rfl rfl rfl ?_
  refine r_load 1 0 [_, _, _, _] rfl rfl rfl rfl ti25 rfl rfl rfl rfl ?_
  refine r_eqlAgg rfl rfl rfl rfl gd25 (eq25 _ _) ?_
  refine run_nil ?_
  refine at_tn ?_
  refine at_cond rfl (fun hb0 => ?_) (fun hb0 => ?_)
  ·
    refine at_seq ?_
    refine at_region ?_
    refine r_assign rfl rfl rfl ?_
    refine run_nil ?_
    refine at_tn ?_
    refine at_ret ?_
    refine at_tr ?_
    refine at_end1 rfl (res_tmp rfl) (fun w hL => ⟨?_, hL.below⟩)
    have e : p = q := by simpa using hb0
    subst e; rw [cmpQ_self]
  ·
    refine at_skip ?_
    refine at_tn ?_
    refine at_seq ?_
    refine at_region ?_
    refine r_load 0 0 [_, _, _, _] rfl rfl rfl rfl ti25 rfl rfl rfl rfl ?_
    refine r_load 1 0 [_, _, _, _] rfl rfl rfl rfl ti25 rfl rfl rfl rfl ?_
    refine r_pcall [_, _] rfl rfl rfl (c_rational_cross _ _ (by first | assumption | grind [lI_add, lI_sub, lI_mul, lI_neg, lI_gcd, lI_num, lI_den, lQ_add, lQ_sub, lQ_mul, lQ_div, lQ_neg, l_nb]) (by first | assumption | grind [lI_add, lI_sub, lI_mul, lI_neg, lI_gcd, lI_num, lI_den, lQ_add, lQ_sub, lQ_mul, lQ_div, lQ_neg, l_nb])) ?_
    refine r_move rfl rfl rfl ?_
    refine r_extract (vs := [_, _, _]) rfl rfl rfl rfl ?_
    refine r_extract (vs := [_, _, _]) rfl rfl rfl rfl ?_
    refine r_extract (vs := [_, _, _]) rfl rfl rfl rfl ?_
    refine r_alloc [_, _] 2 (fun g => [_, _, ⟨some g, 23, _, 2, true⟩]) rfl rfl z23 rfl rfl (fun _ => rfl) (fun g2 => ?_)
    refine r_alloc [_, _] 2 (fun g => [_, _, _, ⟨some g, 23, _, 2, true⟩]) rfl rfl z23 rfl rfl (fun _ => rfl) (fun g3 => ?_)
    refine r_alloc [_, _] 2 (fun g => [_, _, _, _, ⟨some g, 23, _, 2, true⟩]) rfl rfl z23 rfl rfl (fun _ => rfl) (fun g4 => ?_)
    refine r_store rfl 2 0 [_, _, ⟨some g2, 23, _, 2, true⟩, _, _] [_, _] rfl rfl rfl rfl ti23 rfl rfl rfl rfl rfl ?_
    refine r_store rfl 3 0 [_, _, _, ⟨some g3, 23, _, 2, true⟩, _] [_, _] rfl rfl rfl rfl ti23 rfl rfl rfl rfl rfl ?_
    refine r_store rfl 4 0 [_, _, _, _, ⟨some g4, 23, _, 2, true⟩] [_, _] rfl rfl rfl rfl ti23 rfl rfl rfl rfl rfl ?_
    refine run_nil ?_
    refine at_tn ?_
    refine at_seq ?_
    refine at_region ?_
    refine r_load 2 0 [_, _] rfl rfl rfl rfl ti23 rfl rfl rfl rfl ?_
    refine r_load 3 0 [_, _] rfl rfl rfl rfl ti23 rfl rfl rfl rfl ?_
    refine r_pcall [_, _] rfl rfl rfl (c_integer_Compare _ _) ?_
    refine r_assign rfl rfl rfl ?_
    refine run_nil ?_
    refine at_tn ?_
    refine at_ret ?_
    refine at_end1 rfl (res_tmp rfl) (fun w hL => ⟨?_, hL.below⟩)
    exact congrArg (fun z => Ending.returned (.int .i64 z)) (cross_cmp p q)
set_option maxRecDepth 20000 in
theorem c_rational_Min (p q : Rat) (hp : szQ p ≤ 4194303) (hq : szQ q ≤ 4194303) : PCall Tryz.prog 74 #[Q p, Q q] (Q (min p q)) := by
  refine ⟨by kernel_rfl, fun w => ?_⟩
  refine calls_at (args := [Q p, Q q]) Tryz.func74 rfl (Nat.le_of_ble_eq_true rfl) (LRel.nil w) ?_
  show At w ⟨11, [(0, Q p), (1, Q q)], []⟩ _
  refine at_seq ?_
  refine at_region ?_
  refine r_box [_, _, _, _] 4 (fun g => [⟨some g, 25, _, 4, true⟩]) rfl rfl rfl rfl rfl (fun _ => rfl) (fun g0 => ?_)
  refine r_box [_, _, _, _] 4 (fun g => [_, ⟨some g, 25, _, 4, true⟩]) rfl rfl rfl rfl rfl (fun _ => rfl) (fun g1 => ?_)
  refine r_alloc [_, _, _, _] 4 (fun g => [_, _, ⟨some g, 25, _, 4, true⟩]) rfl rfl z25 rfl rfl (fun _ => rfl) (fun g2 => ?_)
  refine run_nil ?_
  refine at_tn ?_
  refine at_seq ?_
  refine at_seq ?_
  refine at_region ?_
  refine r_load 0 0 [_, _, _, _] rfl rfl rfl rfl ti25 rfl rfl rfl rfl ?_
  refine r_load 1 0 [_, _, _, _] rfl rfl rfl rfl ti25 rfl rfl rfl rfl ?_
  refine r_pcall [_, _] rfl rfl rfl (c_rational_Compare _ _ (by first | assumption | grind [lI_add, lI_sub, lI_mul, lI_neg, lI_gcd, lI_num, lI_den, lQ_add, lQ_sub, lQ_mul, lQ_div, lQ_neg, l_nb]) (by first | assumption | grind [lI_add, lI_sub, lI_mul, lI_neg, lI_gcd, lI_num, lI_den, lQ_add, lQ_sub, lQ_mul, lQ_div, lQ_neg, l_nb])) ?_
  refine r_cmpInt rfl rfl rfl rfl rfl ?_
  refine run_nil ?_
  refine at_tn ?_
  refine at_cond rfl (fun hb0 => ?_) (fun hb0 => ?_)
  ·
    refine at_seq ?_
    refine at_region ?_
    refine r_load 0 0 [_, _, _, _] rfl rfl rfl rfl ti25 rfl rfl rfl rfl ?_
    refine r_store rfl 2 0 [_, _, ⟨some g2, 25, _, 4, true⟩] [_, _, _, _] rfl rfl rfl rfl ti25 rfl rfl rfl rfl rfl ?_
    refine run_nil ?_
    refine at_tn ?_
    refine at_ret ?_
    refine at_tr ?_
    refine at_end1 rfl (res_cell 2 rfl rfl ti25 (vs := [_, _, _, _]) rfl rfl (Nat.le_of_ble_eq_true rfl) rfl) (fun w hL => ⟨?_, hL.below⟩)
    rw [min_T hb0]; rfl
  ·
    refine at_skip ?_
    refine at_tn ?_
    refine at_seq ?_
    refine at_region ?_
    refine r_load 1 0 [_, _, _, _] rfl rfl rfl rfl ti25 rfl rfl rfl rfl ?_
    refine r_store rfl 2 0 [_, _, ⟨some g2, 25, _, 4, true⟩] [_, _, _, _] rfl rfl rfl rfl ti25 rfl rfl rfl rfl rfl ?_
    refine run_nil ?_
    refine at_tn ?_
    refine at_ret ?_
    refine at_end1 rfl (res_cell 2 rfl rfl ti25 (vs := [_, _, _, _]) rfl rfl (Nat.le_of_ble_eq_true rfl) rfl) (fun w hL => ⟨?_, hL.below⟩)
    rw [min_F hb0]; rfl
set_option maxRecDepth 20000 in
theorem c_rational_Max (p q : Rat) (hp : szQ p ≤ 4194303) (hq : szQ q ≤ 4194303) : PCall Tryz.prog 73 #[Q p, Q q] (Q (max p q)) := by
  refine ⟨by kernel_rfl, fun w => ?_⟩
  refine calls_at (args := [Q p, Q q]) Tryz.func73 rfl (Nat.le_of_ble_eq_true rfl) (LRel.nil w) ?_
  show At w ⟨11, [(0, Q p), (1, Q q)], []⟩ _
  refine at_seq ?_
  refine at_region ?_
  refine r_box [_, _, _, _] 4 (fun g => [⟨some g, 25, _, 4, true⟩]) rfl rfl rfl rfl rfl (fun _ => rfl) (fun g0 => ?_)
  refine r_box [_, _, _, _] 4 (fun g => [_, ⟨some g, 25, _, 4, true⟩]) rfl rfl rfl rfl rfl (fun _ => rfl) (fun g1 => ?_)
  refine r_alloc [_, _, _, _] 4 (fun g => [_, _, ⟨some g, 25, _, 4, true⟩]) rfl rfl z25 rfl rfl (fun _ => rfl) (fun g2 => ?_)
  refine run_nil ?_
  refine at_tn ?_
  refine at_seq ?_
  refine at_seq ?_
  refine at_region ?_
  refine r_load 0 0 [_, _, _, _] rfl rfl rfl rfl ti25 rfl rfl rfl rfl ?_
  refine r_load 1 0 [_, _, _, _] rfl rfl rfl rfl ti25 rfl rfl rfl rfl ?_
  refine r_pcall [_, _] rfl rfl rfl (c_rational_Compare _ _ (by first | assumption | grind [lI_add, lI_sub, lI_mul, lI_neg, lI_gcd, lI_num, lI_den, lQ_add, lQ_sub, lQ_mul, lQ_div, lQ_neg, l_nb]) (by first | assumption | grind [lI_add, lI_sub, lI_mul, lI_neg, lI_gcd, lI_num, lI_den, lQ_add, lQ_sub, lQ_mul, lQ_div, lQ_neg, l_nb])) ?_
  refine r_cmpInt rfl rfl rfl rfl rfl ?_
  refine run_nil ?_
  refine at_tn ?_
  refine at_cond rfl (fun hb0 => ?_) (fun hb0 => ?_)
  ·
    refine at_seq ?_
    refine at_region ?_
    refine r_load 0 0 [_, _, _, _] rfl rfl rfl rfl ti25 rfl rfl rfl rfl ?_
    refine r_store rfl 2 0 [_, _, ⟨some g2, 25, _, 4, true⟩] [_, _, _, _] rfl rfl rfl rfl ti25 rfl rfl rfl rfl rfl ?_
    refine run_nil ?_
    refine at_tn ?_
    refine at_ret ?_
    refine at_tr ?_
    refine at_end1 rfl (res_cell 2 rfl rfl ti25 (vs := [_, _, _, _]) rfl rfl (Nat.le_of_ble_eq_true rfl) rfl) (fun w hL => ⟨?_, hL.below⟩)
    rw [max_T hb0]; rfl
  ·
    refine at_skip ?_
    refine at_tn ?_
    refine at_seq ?_
    refine at_region ?_
    refine r_load 1 0 [_, _, _, _] rfl rfl rfl rfl ti25 rfl rfl rfl rfl ?_
    refine r_store rfl 2 0 [_, _, ⟨some g2, 25, _, 4, true⟩] [_, _, _, _] rfl rfl rfl rfl ti25 rfl rfl rfl rfl rfl ?_
    refine run_nil ?_
    refine at_tn ?_
    refine at_ret ?_
    refine at_end1 rfl (res_cell 2 rfl rfl ti25 (vs := [_, _, _, _]) rfl rfl (Nat.le_of_ble_eq_true rfl) rfl) (fun w hL => ⟨?_, hL.below⟩)
    rw [max_F hb0]; rfl
end Go.Proofs.YthnlafhnpphdhaaGreatDoor
set_option linter.unusedVariables false
namespace Go.Proofs.YthnlafhnpphdhaaGreatDoor
open Go Go.RowKit Go.Via
set_option maxRecDepth 20000 in
theorem c_ref02_Sub (p q : Rat) (hp : szQ p ≤ 4194303) (hq : szQ q ≤ 4194303) : PCall Tryz.prog 64 #[Q p, Q q] (Q (p - q)) := by
  refine ⟨by kernel_rfl, fun w => ?_⟩
  refine calls_at (args := [Q p, Q q]) Tryz.func64 rfl (Nat.le_of_ble_eq_true rfl) (LRel.nil w) ?_
  show At w ⟨9, [(0, Q p), (1, Q q)], []⟩ _
  refine at_seq ?_
  refine at_region ?_
  refine r_box [_, _, _, _] 4 (fun g => [⟨some g, 25, _, 4, true⟩]) rfl rfl rfl rfl rfl (fun _ => rfl) (fun g0 => ?_)
  refine r_box [_, _, _, _] 4 (fun g => [_, ⟨some g, 25, _, 4, true⟩]) rfl rfl rfl rfl rfl (fun _ => rfl) (fun g1 => ?_)
  refine r_alloc [_, _, _, _] 4 (fun g => [_, _, ⟨some g, 25, _, 4, true⟩]) rfl rfl z25 rfl rfl (fun _ => rfl) (fun g2 => ?_)
  refine run_nil ?_
  refine at_tn ?_
  refine at_seq ?_
  refine at_drawn (l' := [⟨_,_,_,_,_,_⟩, ⟨_,_,_,_,_,_⟩, ⟨_,_,_,_,_,_⟩, ⟨_,_,_,_,_,_⟩, ⟨_,_,_,_,_,_⟩]) [] [0, 1, 2, 3, 4] mixed (by kernel_rfl) rfl (by kernel_rfl) ?_
  refine r_load 0 0 [_, _, _, _] rfl rfl rfl rfl ti25 rfl rfl rfl rfl ?_
  refine r_load 1 0 [_, _, _, _] rfl rfl rfl rfl ti25 rfl rfl rfl rfl ?_
  refine r_pcall [_] rfl rfl rfl (c_ref02_Neg q) ?_
  refine r_pcall [_, _] rfl rfl rfl (c_ref02_Add p (-q) hp (Nat.le_trans (lQ_neg q) hq)) ?_
  refine r_store rfl 2 0 [_, _, ⟨some g2, 25, _, 4, true⟩] [_, _, _, _] rfl rfl rfl rfl ti25 rfl rfl rfl rfl rfl ?_
  refine run_nil ?_
  refine at_tn ?_
  refine at_ret ?_
  refine at_end1 rfl (res_cell 2 rfl rfl ti25 (vs := [_, _, _, _]) rfl rfl (Nat.le_of_ble_eq_true rfl) rfl) (fun w hL => ⟨?_, hL.below⟩)
  exact congrArg (fun z => Ending.returned (Q z)) (Rat.sub_eq_add_neg p q).symm
set_option maxRecDepth 20000 in
theorem c_ref02_Compare (p q : Rat) (hp : szQ p ≤ 4194303) (hq : szQ q ≤ 4194303) : PCall Tryz.prog 47 #[Q p, Q q] (.int .i64 (cmpQ p q)) := by
  refine ⟨by kernel_rfl, fun w => ?_⟩
  refine calls_at (args := [Q p, Q q]) Tryz.func47 rfl (Nat.le_of_ble_eq_true rfl) (LRel.nil w) ?_
  show At w ⟨9, [(0, Q p), (1, Q q)], []⟩ _
  refine at_seq ?_
  refine at_region ?_
  refine r_box [_, _, _, _] 4 (fun g => [⟨some g, 25, _, 4, true⟩]) rfl rfl rfl rfl rfl (fun _ => rfl) (fun g0 => ?_)
  refine r_box [_, _, _, _] 4 (fun g => [_, ⟨some g, 25, _, 4, true⟩]) rfl rfl rfl rfl rfl (fun _ => rfl) (fun g1 => ?_)
  refine r_assign rfl rfl rfl ?_
  refine run_nil ?_
  refine at_tn ?_
  refine at_seq ?_
  refine at_region ?_
  refine r_load 0 0 [_, _, _, _] rfl rfl rfl rfl ti25 rfl rfl rfl rfl ?_
  refine r_load 1 0 [_, _, _, _] rfl rfl rfl rfl ti25 rfl rfl rfl rfl ?_
  refine r_pcall [_, _] rfl rfl rfl (c_ref02_Sub p q hp hq) ?_
  refine r_pcall [_] rfl rfl rfl (c_ref02_Sign (p - q)) ?_
  refine r_assign rfl rfl rfl ?_
  refine run_nil ?_
  refine at_tn ?_
  refine at_ret ?_
  refine at_end1 rfl (res_tmp rfl) (fun w hL => ⟨?_, hL.below⟩)
  exact congrArg (fun z => Ending.returned (.int .i64 z)) (sign_sub p q)
set_option maxRecDepth 20000 in
theorem c_ref02_IsInt (b : Bool) (s : ByteArray) : PCall Tryz.prog 82 #[.agg #[.bool b, .string s]] (.bool (!badI b s)) := by
  refine ⟨by kernel_rfl, fun w => ?_⟩
  refine calls_at (args := [.agg #[.bool b, .string s]]) Tryz.func82 rfl (Nat.le_of_ble_eq_true rfl) (LRel.nil w) ?_
  show At w ⟨14, [(0, .agg #[.bool b, .string s])], []⟩ _
  refine at_seq ?_
  refine at_region ?_
  refine r_box [_, _] 2 (fun g => [⟨some g, 23, _, 2, true⟩]) rfl rfl rfl rfl rfl (fun _ => rfl) (fun g0 => ?_)
  refine r_assign rfl rfl rfl ?_
  refine run_nil ?_
  refine at_tn ?_
  refine at_seq ?_
  refine at_seq ?_
  refine at_region ?_
  refine r_fieldAddr 0 0 1 rfl rfl rfl rfl rfl ti23 rfl rfl ?_
  refine r_load 0 1 [_] rfl rfl rfl rfl ti9 rfl rfl rfl rfl ?_
  refine r_len rfl u9 rfl rfl ?_
  refine r_cmpInt rfl rfl rfl rfl rfl ?_
  refine run_nil ?_
  refine at_tn ?_
  refine at_cond rfl (fun hb0 => ?_) (fun hb0 => ?_)
  ·
    have he := ba_size0 hb0
    refine at_seq ?_
    refine at_region ?_
    refine r_fieldAddr 0 0 0 rfl rfl rfl rfl rfl ti23 rfl rfl ?_
    refine r_load 0 0 [_] rfl rfl rfl rfl ti4 rfl rfl rfl rfl ?_
    refine r_not rfl rfl rfl ?_
    refine r_assign rfl rfl rfl ?_
    refine run_nil ?_
    refine at_tn ?_
    refine at_ret ?_
    refine at_tr ?_
    refine at_end1 rfl (res_tmp rfl) (fun w hL => ⟨?_, hL.below⟩)
    rw [badI_nil he]
  ·
    obtain ⟨x, l, he⟩ := ba_sizeN hb0
    refine at_skip ?_
    refine at_tn ?_
    refine at_seq ?_
    refine at_region ?_
    refine r_fieldAddr 0 0 1 rfl rfl rfl rfl rfl ti23 rfl rfl ?_
    refine r_load 0 1 [_] rfl rfl rfl rfl ti9 rfl rfl rfl rfl ?_
    refine r_idxS (b := x) (r := (x.toNat : Int)) u9 rfl rfl rfl rfl (by omega) (by rw [he]; rfl) rfl ?_
    refine r_cmpInt rfl rfl rfl rfl rfl ?_
    refine r_assign rfl rfl rfl ?_
    refine run_nil ?_
    refine at_tn ?_
    refine at_ret ?_
    refine at_end1 rfl (res_tmp rfl) (fun w hL => ⟨?_, hL.below⟩)
    rw [badI_cons he]
end Go.Proofs.YthnlafhnpphdhaaGreatDoor
set_option linter.unusedVariables false
namespace Go.Proofs.YthnlafhnpphdhaaGreatDoor
open Go Go.RowKit Go.Via
set_option maxRecDepth 20000 in
theorem c_ref02_Check (b1 : Bool) (s1 : ByteArray) (b2 : Bool) (s2 : ByteArray) (hs1 : s1.size ≤ 1000) (hs2 : s2.size ≤ 1000) : PCall Tryz.prog 48 #[.agg #[.bool b1, .string s1, .bool b2, .string s2]] (.bool (isQ b1 s1 b2 s2)) := by
  refine ⟨by kernel_rfl, fun w => ?_⟩
  refine calls_at (args := [.agg #[.bool b1, .string s1, .bool b2, .string s2]]) Tryz.func48 rfl (Nat.le_of_ble_eq_true rfl) (LRel.nil w) ?_
  show At w ⟨45, [(0, .agg #[.bool b1, .string s1, .bool b2, .string s2])], []⟩ _
  refine at_seq ?_
  refine at_region ?_
  refine r_box [_, _, _, _] 4 (fun g => [⟨some g, 25, _, 4, true⟩]) rfl rfl rfl rfl rfl (fun _ => rfl) (fun g0 => ?_)
  refine r_assign rfl rfl rfl ?_
  refine run_nil ?_
  refine at_tn ?_
  refine at_seq ?_
  refine at_seq ?_
  refine at_region ?_
  refine r_fieldAddr 0 0 0 rfl rfl rfl rfl rfl ti25 rfl rfl ?_
  refine r_load 0 0 [_, _] rfl rfl rfl rfl ti23 rfl rfl rfl rfl ?_
  refine r_pcall [_] rfl rfl rfl (c_ref02_IsInt b1 s1) ?_
  refine r_not rfl rfl rfl ?_
  refine r_move rfl rfl rfl ?_
  refine r_split 8 rfl (fun hb0 => ?_) (fun hb0 => ?_)
  ·
    have hI1 : badI b1 s1 = true := by simpa using hb0
    refine r_no rfl rfl rfl ?_
    refine r_no rfl rfl rfl ?_
    refine r_no rfl rfl rfl ?_
    refine r_no rfl rfl rfl ?_
    refine r_pickT rfl rfl rfl rfl ?_
    refine r_move rfl rfl rfl ?_
    refine r_no rfl rfl rfl ?_
    refine r_no rfl rfl rfl ?_
    refine r_no rfl rfl rfl ?_
    refine r_pickT rfl rfl rfl rfl ?_
    refine run_nil ?_
    refine at_tn ?_
    refine at_condT rfl ?_
    refine at_seq ?_
    refine at_region ?_
    refine r_assign rfl rfl rfl ?_
    refine run_nil ?_
    refine at_tn ?_
    refine at_ret ?_
    refine at_tr ?_
    refine at_end1 rfl (res_tmp rfl) (fun w hL => ⟨?_, hL.below⟩)
    rw [isQ_1 hI1]
  ·
    have hI1 : badI b1 s1 = false := by simpa using hb0
    refine r_fieldAddr 0 0 2 rfl rfl rfl rfl rfl ti25 rfl rfl ?_
    refine r_load 0 2 [_, _] rfl rfl rfl rfl ti23 rfl rfl rfl rfl ?_
    refine r_pcall [_] rfl rfl rfl (c_ref02_IsInt b2 s2) ?_
    refine r_not rfl rfl rfl ?_
    refine r_pickF rfl rfl rfl rfl ?_
    refine r_move rfl rfl rfl ?_
    refine r_split 14 rfl (fun hb1 => ?_) (fun hb1 => ?_)
    ·
      have hI2 : badI b2 s2 = true := by simpa using hb1
      refine r_no rfl rfl rfl ?_
      refine r_no rfl rfl rfl ?_
      refine r_no rfl rfl rfl ?_
      refine r_pickT rfl rfl rfl rfl ?_
      refine run_nil ?_
      refine at_tn ?_
      refine at_condT rfl ?_
      refine at_seq ?_
      refine at_region ?_
      refine r_assign rfl rfl rfl ?_
      refine run_nil ?_
      refine at_tn ?_
      refine at_ret ?_
      refine at_tr ?_
      refine at_end1 rfl (res_tmp rfl) (fun w hL => ⟨?_, hL.below⟩)
      rw [isQ_2 hI2]
    ·
      have hI2 : badI b2 s2 = false := by simpa using hb1
      refine r_fieldAddr 0 0 2 rfl rfl rfl rfl rfl ti25 rfl rfl ?_
      refine r_fieldAddr 0 2 0 rfl rfl rfl rfl rfl ti23 rfl rfl ?_
      refine r_load 0 2 [_] rfl rfl rfl rfl ti4 rfl rfl rfl rfl ?_
      refine r_pickF rfl rfl rfl rfl ?_
      refine run_nil ?_
      refine at_tn ?_
      refine at_cond rfl (fun hb2 => ?_) (fun hb2 => ?_)
      ·
        subst hb2
        refine at_seq ?_
        refine at_region ?_
        refine r_assign rfl rfl rfl ?_
        refine run_nil ?_
        refine at_tn ?_
        refine at_ret ?_
        refine at_tr ?_
        refine at_end1 rfl (res_tmp rfl) (fun w hL => ⟨?_, hL.below⟩)
        rw [isQ_3]
      ·
        subst hb2
        refine at_skip ?_
        refine at_tn ?_
        refine at_seq ?_
        refine at_seq ?_
        refine at_region ?_
        refine r_fieldAddr 0 0 2 rfl rfl rfl rfl rfl ti25 rfl rfl ?_
        refine r_fieldAddr 0 2 1 rfl rfl rfl rfl rfl ti23 rfl rfl ?_
        refine r_load 0 3 [_] rfl rfl rfl rfl ti9 rfl rfl rfl rfl ?_
        refine r_eqlStr rfl rfl rfl rfl ?_
        refine run_nil ?_
        refine at_tn ?_
        refine at_cond rfl (fun hb3 => ?_) (fun hb3 => ?_)
        ·
          have he2 := ba_nil hb3
          refine at_seq ?_
          refine at_region ?_
          refine r_assign rfl rfl rfl ?_
          refine run_nil ?_
          refine at_tn ?_
          refine at_ret ?_
          refine at_tr ?_
          refine at_end1 rfl (res_tmp rfl) (fun w hL => ⟨?_, hL.below⟩)
          rw [isQ_4 hI1 he2]
        ·
          obtain ⟨z, rfl, rfl⟩ := okI_z hI1
          obtain ⟨d, hd0, rfl⟩ := okI_d hb3 hI2
          rw [mag_size] at hs1 hs2
          have hz1 : szI z ≤ 1000 := hs1
          have hz2 : szI (d : Int) ≤ 1000 := szI_cast hs2
          have hz3 : nb z.natAbs ≤ 1000 := hs1
          refine at_skip ?_
          refine at_tn ?_
          refine at_seq ?_
          refine at_drawn (l' := [⟨_,_,_,_,_,_⟩, ⟨_,_,_,_,_,_⟩, ⟨_,_,_,_,_,_⟩, ⟨_,_,_,_,_,_⟩, ⟨_,_,_,_,_,_⟩, ⟨_,_,_,_,_,_⟩, ⟨_,_,_,_,_,_⟩, ⟨_,_,_,_,_,_⟩]) [] [0, 1, 3, 4, 2, 5, 6, 7] mixed (by kernel_rfl) rfl (by kernel_rfl) ?_
          refine r_fieldAddr 0 0 0 rfl rfl rfl rfl rfl ti25 rfl rfl ?_
          refine r_load 0 0 [_, _] rfl rfl rfl rfl ti23 rfl rfl rfl rfl ?_
          refine r_fieldAddr 0 0 2 rfl rfl rfl rfl rfl ti25 rfl rfl ?_
          refine r_load 0 2 [_, _] rfl rfl rfl rfl ti23 rfl rfl rfl rfl ?_
          refine r_know 27 (I (d : Int)) rfl (I_nat d) ?_
          refine r_scallA [_] [] rfl rfl rfl ((c_ref02_digits z (by omega)).weakA (fun x b hb => by rw [List.mem_singleton.1 hb])) trivial rfl rfl (fun xn => ?_)
          refine r_scallA [_] [] rfl rfl rfl ((c_ref02_digits (d : Int) (by omega)).weakA (fun x b hb => by rw [List.mem_singleton.1 hb])) trivial rfl rfl (fun xd => ?_)
          refine r_scallA [_, _] [1, 2] rfl rfl rfl (c_ref02_common z.natAbs d (by omega) (by omega) xn xd) ⟨⟨_, rfl, le_share⟩, ⟨_, rfl, le_share⟩, trivial⟩ rfl rfl (fun zg => ?_)
          refine r_assign rfl rfl rfl ?_
          refine run_nil ?_
          refine at_tn ?_
          refine at_seq ?_
          refine at_region ?_
          refine r_fieldAddr 0 0 2 rfl rfl rfl rfl rfl ti25 rfl rfl ?_
          refine r_fieldAddr 0 2 1 rfl rfl rfl rfl rfl ti23 rfl rfl ?_
          refine r_load 0 3 [_] rfl rfl rfl rfl ti9 rfl rfl rfl rfl ?_
          refine r_neqStr rfl rfl rfl rfl ?_
          refine r_move rfl rfl rfl ?_
          refine r_split 34 rfl (fun hb4 => ?_) (fun hb4 => ?_)
          ·
            have hd1 : d ≠ 1 := mag_ne1 hb4
            refine r_move rfl rfl rfl ?_
            refine r_lenS u85 rfl rfl rfl ?_
            refine r_cmpInt rfl rfl rfl rfl rfl ?_
            refine r_pickT rfl rfl rfl rfl ?_
            refine r_move rfl rfl rfl ?_
            refine r_split 39 rfl (fun hb5 => ?_) (fun hb5 => ?_)
            ·
              have hg1 : nb (Nat.gcd z.natAbs d) = 1 := by have := eq_of_beq hb5; omega
              refine r_move rfl rfl rfl ?_
              refine r_indexAddr 3 (0) u85 ti3 rfl rfl rfl rfl rfl (by omega) (by omega) (NV_ne (by rw [D8_length]; omega)) (by show 0 + Int.toNat _ * 1 = _; omega) ?_
              refine r_load1 3 (0) ti3 rfl rfl rfl rfl (NV_get (D8_get (by omega))) ?_
              refine r_cmpInt rfl rfl rfl rfl rfl ?_
              refine r_pickT rfl rfl rfl rfl ?_
              refine r_assign rfl rfl rfl ?_
              refine run_nil ?_
              refine at_tn ?_
              refine at_ret ?_
              refine at_end1 rfl (res_tmp rfl) (fun w hL => ⟨?_, hL.below⟩)
              exact congrArg (fun b => Ending.returned (.bool b)) (isQ_5 hd0 hd1 hg1)
            ·
              have hg1 : Nat.gcd z.natAbs d ≠ 1 := not_one_of_nb (by simpa using hb5)
              refine r_no rfl rfl rfl ?_
              refine r_no rfl rfl rfl ?_
              refine r_no rfl rfl rfl ?_
              refine r_no rfl rfl rfl ?_
              refine r_pickF rfl rfl rfl rfl ?_
              refine r_assign rfl rfl rfl ?_
              refine run_nil ?_
              refine at_tn ?_
              refine at_ret ?_
              refine at_end1 rfl (res_tmp rfl) (fun w hL => ⟨?_, hL.below⟩)
              exact congrArg (fun b => Ending.returned (.bool b)) (isQ_6 hd0 hg1)
          ·
            have hd1 : d = 1 := mag_eq1 hb4
            refine r_no rfl rfl rfl ?_
            refine r_no rfl rfl rfl ?_
            refine r_no rfl rfl rfl ?_
            refine r_pickF rfl rfl rfl rfl ?_
            refine r_move rfl rfl rfl ?_
            refine r_no rfl rfl rfl ?_
            refine r_no rfl rfl rfl ?_
            refine r_no rfl rfl rfl ?_
            refine r_no rfl rfl rfl ?_
            refine r_pickF rfl rfl rfl rfl ?_
            refine r_assign rfl rfl rfl ?_
            refine run_nil ?_
            refine at_tn ?_
            refine at_ret ?_
            refine at_end1 rfl (res_tmp rfl) (fun w hL => ⟨?_, hL.below⟩)
            exact congrArg (fun b => Ending.returned (.bool b)) (isQ_7 hd1)
end Go.Proofs.YthnlafhnpphdhaaGreatDoor
set_option linter.unusedVariables false
set_option linter.unusedSimpArgs false
namespace Go.Via
open Go Go.RowKit
/-! ### points and segments over the rational numbers -/
abbrev P2 := Rat × Rat
abbrev S2 := P2 × P2
def szP (p : P2) : Nat := max (szQ p.1) (szQ p.2)
def szS (s : S2) : Nat := max (szP s.1) (szP s.2)
theorem szP1 {p : P2} {n : Nat} (h : szP p ≤ n) : szQ p.1 ≤ n := by unfold szP at h; omega
theorem szP2 {p : P2} {n : Nat} (h : szP p ≤ n) : szQ p.2 ≤ n := by unfold szP at h; omega
theorem szPm {p : P2} {n : Nat} (h1 : szQ p.1 ≤ n) (h2 : szQ p.2 ≤ n) : szP p ≤ n := by unfold szP; omega
theorem szS1 {s : S2} {n : Nat} (h : szS s ≤ n) : szP s.1 ≤ n := by unfold szS at h; omega
theorem szS2 {s : S2} {n : Nat} (h : szS s ≤ n) : szP s.2 ≤ n := by unfold szS at h; omega
theorem szSm {s : S2} {n : Nat} (h1 : szP s.1 ≤ n) (h2 : szP s.2 ≤ n) : szS s ≤ n := by unfold szS; omega
def pAdd (p q : P2) : P2 := (p.1 + q.1, p.2 + q.2)
def pSub (p q : P2) : P2 := (p.1 - q.1, p.2 - q.2)
def pScale (p : P2) (r : Rat) : P2 := (p.1 * r, p.2 * r)
def dot (p q : P2) : Rat := p.1 * q.1 + p.2 * q.2
def crs (p q : P2) : Rat := p.1 * q.2 - p.2 * q.1
def sgn (q : Rat) : Int := q.num.sign
def cmpP (p q : P2) : Int := if cmpQ p.1 q.1 = 0 then cmpQ p.2 q.2 else cmpQ p.1 q.1
def ori (a b c : P2) : Int := sgn (crs (pSub b a) (pSub c a))
def divP (s : S2) (r : Rat) : P2 := pAdd s.1 (pScale (pSub s.2 s.1) r)
/-- the program's test whether a point lies on a segment -/
def onS (p : P2) (s : S2) : Prop := ori s.1 s.2 p = 0 ∧ 0 ≤ cmpP s.1 p * cmpP p s.2 ∧ (s.1 ≠ s.2 ∨ p = s.1)
instance (p : P2) (s : S2) : Decidable (onS p s) := inferInstanceAs (Decidable (_ ∧ _ ∧ _))
/-- that of the reference -/
def btw (x a b : Rat) : Prop := (¬ x < a ∧ ¬ b < x) ∨ (¬ x < b ∧ ¬ a < x)
instance (x a b : Rat) : Decidable (btw x a b) := inferInstanceAs (Decidable (_ ∨ _))
def onR (p : P2) (s : S2) : Prop := ori s.1 s.2 p = 0 ∧ btw p.1 s.1.1 s.2.1 ∧ btw p.2 s.1.2 s.2.2
instance (p : P2) (s : S2) : Decidable (onR p s) := inferInstanceAs (Decidable (_ ∧ _ ∧ _))
theorem Q_zero' : Value.agg #[.bool false, .string ⟨#[]⟩, .bool false, .string ⟨#[]⟩] = Q 0 := Q_zero.symm
theorem cmpQ_cases (p q : Rat) : cmpQ p q = -1 ∨ cmpQ p q = 0 ∨ cmpQ p q = 1 := by
  unfold cmpQ
  by_cases h : p < q
  · rw [if_pos h]; exact .inl rfl
  · rw [if_neg h]
    by_cases h2 : q < p
    · rw [if_pos h2]; exact .inr (.inr rfl)
    · rw [if_neg h2]; exact .inr (.inl rfl)
theorem cmpP_cases (p q : P2) : cmpP p q = -1 ∨ cmpP p q = 0 ∨ cmpP p q = 1 := by
  unfold cmpP; split
  · exact cmpQ_cases _ _
  · exact cmpQ_cases _ _
theorem cmpP_T {p q : P2} (h : (cmpQ p.1 q.1 != 0) = true) : cmpQ p.1 q.1 = cmpP p q := by
  have : cmpQ p.1 q.1 ≠ 0 := by simpa using h
  unfold cmpP; rw [if_neg this]
theorem cmpP_F {p q : P2} (h : (cmpQ p.1 q.1 != 0) = false) : cmpQ p.2 q.2 = cmpP p q := by
  have : cmpQ p.1 q.1 = 0 := by simpa using h
  unfold cmpP; rw [if_pos this]
theorem sgn_bound (q : Rat) : -1 ≤ sgn q ∧ sgn q ≤ 1 := by
  unfold sgn
  rcases Int.lt_trichotomy q.num 0 with h | h | h
  · rw [Int.sign_eq_neg_one_of_neg h]; omega
  · rw [h]; decide
  · rw [Int.sign_eq_one_of_pos h]; omega
theorem cmpQ_less {a b : Rat} : decide (cmpQ a b < 0) = decide (a < b) := by
  refine decide_eq_decide.2 ?_
  unfold cmpQ
  by_cases h : a < b
  · rw [if_pos h]; simp [h]
  · rw [if_neg h]
    by_cases h2 : b < a
    · rw [if_pos h2]; simp [h]
    · rw [if_neg h2]; simp [h]
theorem szQ_m1 : szQ (-1) ≤ 1 := by
  have h := szQ_neg (a := 1) szQ_one
  exact h
theorem pSub_ref (p q : P2) : pAdd p (pScale q (-1)) = pSub p q := by
  unfold pAdd pScale pSub
  refine Prod.ext ?_ ?_
  · show p.1 + q.1 * (-1) = p.1 - q.1; grind
  · show p.2 + q.2 * (-1) = p.2 - q.2; grind
end Go.Via
namespace Go.Proofs.YthnlafhnpphdhaaGreatDoor
open Go Go.RowKit Go.Via
theorem eq27 (p q : P2) (w : World) : (Op.equalIn 10000 27 (Pt p) (Pt q)).run Tryz.prog w = .ok (decide (p = q)) w := eq27d 9996 p q w
end Go.Proofs.YthnlafhnpphdhaaGreatDoor
set_option linter.unusedVariables false
namespace Go.Proofs.YthnlafhnpphdhaaGreatDoor
open Go Go.RowKit Go.Via
set_option maxRecDepth 20000 in
theorem c_plane_Add (p q : P2) (hp : szP p ≤ 1000000) (hq : szP q ≤ 1000000) : PCall Tryz.prog 16 #[Pt p, Pt q] (Pt (pAdd p q)) := by
  refine ⟨by kernel_rfl, fun w => ?_⟩
  refine calls_at (args := [Pt p, Pt q]) Tryz.func16 rfl (Nat.le_of_ble_eq_true rfl) (LRel.nil w) ?_
  show At w ⟨16, [(0, Pt p), (1, Pt q)], []⟩ _
  refine at_seq ?_
  refine at_region ?_
  refine r_box [_, _, _, _, _, _, _, _] 8 (fun g => [⟨some g, 27, _, 8, true⟩]) rfl rfl rfl rfl rfl (fun _ => rfl) (fun g0 => ?_)
  refine r_box [_, _, _, _, _, _, _, _] 8 (fun g => [_, ⟨some g, 27, _, 8, true⟩]) rfl rfl rfl rfl rfl (fun _ => rfl) (fun g1 => ?_)
  refine r_alloc [_, _, _, _, _, _, _, _] 8 (fun g => [_, _, ⟨some g, 27, _, 8, true⟩]) rfl rfl z27 rfl rfl (fun _ => rfl) (fun g2 => ?_)
  refine run_nil ?_
  refine at_tn ?_
  refine at_seq ?_
  refine at_drawn (l' := [⟨_,_,_,_,_,_⟩, ⟨_,_,_,_,_,_⟩, ⟨_,_,_,_,_,_⟩, ⟨_,_,_,_,_,_⟩, ⟨_,_,_,_,_,_⟩, ⟨_,_,_,_,_,_⟩, ⟨_,_,_,_,_,_⟩, ⟨_,_,_,_,_,_⟩, ⟨_,_,_,_,_,_⟩, ⟨_,_,_,_,_,_⟩, ⟨_,_,_,_,_,_⟩, ⟨_,_,_,_,_,_⟩]) [] [0, 1, 2, 3, 5, 6, 7, 8, 4, 9, 10, 11] mixed (by kernel_rfl) rfl (by kernel_rfl) ?_
  refine r_fieldAddr 0 0 0 rfl rfl rfl rfl rfl ti27 rfl rfl ?_
  refine r_load 0 0 [_, _, _, _] rfl rfl rfl rfl ti25 rfl rfl rfl rfl ?_
  refine r_fieldAddr 1 0 0 rfl rfl rfl rfl rfl ti27 rfl rfl ?_
  refine r_load 1 0 [_, _, _, _] rfl rfl rfl rfl ti25 rfl rfl rfl rfl ?_
  refine r_fieldAddr 0 0 4 rfl rfl rfl rfl rfl ti27 rfl rfl ?_
  refine r_load 0 4 [_, _, _, _] rfl rfl rfl rfl ti25 rfl rfl rfl rfl ?_
  refine r_fieldAddr 1 0 4 rfl rfl rfl rfl rfl ti27 rfl rfl ?_
  refine r_load 1 4 [_, _, _, _] rfl rfl rfl rfl ti25 rfl rfl rfl rfl ?_
  refine r_pcall [_, _] rfl rfl rfl (c_rational_Add p.1 q.1 (Nat.le_trans (szP1 hp) (Nat.le_of_ble_eq_true rfl)) (Nat.le_trans (szP1 hq) (Nat.le_of_ble_eq_true rfl))) ?_
  refine r_pcall [_, _] rfl rfl rfl (c_rational_Add p.2 q.2 (Nat.le_trans (szP2 hp) (Nat.le_of_ble_eq_true rfl)) (Nat.le_trans (szP2 hq) (Nat.le_of_ble_eq_true rfl))) ?_
  refine r_build [(0, _), (1, _)] rfl rfl rfl (bd27_2) ?_
  refine r_store rfl 2 0 [_, _, ⟨some g2, 27, _, 8, true⟩] [_, _, _, _, _, _, _, _] rfl rfl rfl rfl ti27 rfl rfl rfl rfl rfl ?_
  refine run_nil ?_
  refine at_tn ?_
  refine at_ret ?_
  refine at_end1 rfl (res_cell 2 rfl rfl ti27 (vs := [_, _, _, _, _, _, _, _]) rfl rfl (Nat.le_of_ble_eq_true rfl) rfl) (fun w hL => ⟨?_, hL.below⟩)
  exact rfl
set_option maxRecDepth 20000 in
theorem c_plane_Scale (p : P2) (r : Rat) (hp : szP p ≤ 1000000) (hr : szQ r ≤ 1000000) : PCall Tryz.prog 20 #[Pt p, Q r] (Pt (pScale p r)) := by
  refine ⟨by kernel_rfl, fun w => ?_⟩
  refine calls_at (args := [Pt p, Q r]) Tryz.func20 rfl (Nat.le_of_ble_eq_true rfl) (LRel.nil w) ?_
  show At w ⟨14, [(0, Pt p), (1, Q r)], []⟩ _
  refine at_seq ?_
  refine at_region ?_
  refine r_box [_, _, _, _, _, _, _, _] 8 (fun g => [⟨some g, 27, _, 8, true⟩]) rfl rfl rfl rfl rfl (fun _ => rfl) (fun g0 => ?_)
  refine r_box [_, _, _, _] 4 (fun g => [_, ⟨some g, 25, _, 4, true⟩]) rfl rfl rfl rfl rfl (fun _ => rfl) (fun g1 => ?_)
  refine r_alloc [_, _, _, _, _, _, _, _] 8 (fun g => [_, _, ⟨some g, 27, _, 8, true⟩]) rfl rfl z27 rfl rfl (fun _ => rfl) (fun g2 => ?_)
  refine run_nil ?_
  refine at_tn ?_
  refine at_seq ?_
  refine at_drawn (l' := [⟨_,_,_,_,_,_⟩, ⟨_,_,_,_,_,_⟩, ⟨_,_,_,_,_,_⟩, ⟨_,_,_,_,_,_⟩, ⟨_,_,_,_,_,_⟩, ⟨_,_,_,_,_,_⟩, ⟨_,_,_,_,_,_⟩, ⟨_,_,_,_,_,_⟩, ⟨_,_,_,_,_,_⟩, ⟨_,_,_,_,_,_⟩]) [] [0, 1, 2, 4, 5, 6, 3, 7, 8, 9] mixed (by kernel_rfl) rfl (by kernel_rfl) ?_
  refine r_fieldAddr 0 0 0 rfl rfl rfl rfl rfl ti27 rfl rfl ?_
  refine r_load 0 0 [_, _, _, _] rfl rfl rfl rfl ti25 rfl rfl rfl rfl ?_
  refine r_load 1 0 [_, _, _, _] rfl rfl rfl rfl ti25 rfl rfl rfl rfl ?_
  refine r_fieldAddr 0 0 4 rfl rfl rfl rfl rfl ti27 rfl rfl ?_
  refine r_load 0 4 [_, _, _, _] rfl rfl rfl rfl ti25 rfl rfl rfl rfl ?_
  refine r_load 1 0 [_, _, _, _] rfl rfl rfl rfl ti25 rfl rfl rfl rfl ?_
  refine r_pcall [_, _] rfl rfl rfl (c_rational_Mul p.1 r (Nat.le_trans (szP1 hp) (Nat.le_of_ble_eq_true rfl)) (Nat.le_trans hr (Nat.le_of_ble_eq_true rfl))) ?_
  refine r_pcall [_, _] rfl rfl rfl (c_rational_Mul p.2 r (Nat.le_trans (szP2 hp) (Nat.le_of_ble_eq_true rfl)) (Nat.le_trans hr (Nat.le_of_ble_eq_true rfl))) ?_
  refine r_build [(0, _), (1, _)] rfl rfl rfl (bd27_2) ?_
  refine r_store rfl 2 0 [_, _, ⟨some g2, 27, _, 8, true⟩] [_, _, _, _, _, _, _, _] rfl rfl rfl rfl ti27 rfl rfl rfl rfl rfl ?_
  refine run_nil ?_
  refine at_tn ?_
  refine at_ret ?_
  refine at_end1 rfl (res_cell 2 rfl rfl ti27 (vs := [_, _, _, _, _, _, _, _]) rfl rfl (Nat.le_of_ble_eq_true rfl) rfl) (fun w hL => ⟨?_, hL.below⟩)
  exact rfl
set_option maxRecDepth 20000 in
theorem c_plane_Sub (p q : P2) (hp : szP p ≤ 900000) (hq : szP q ≤ 900000) : PCall Tryz.prog 18 #[Pt p, Pt q] (Pt (pSub p q)) := by
  refine ⟨by kernel_rfl, fun w => ?_⟩
  refine calls_at (args := [Pt p, Pt q]) Tryz.func18 rfl (Nat.le_of_ble_eq_true rfl) (LRel.nil w) ?_
  show At w ⟨16, [(0, Pt p), (1, Pt q)], []⟩ _
  refine at_seq ?_
  refine at_region ?_
  refine r_box [_, _, _, _, _, _, _, _] 8 (fun g => [⟨some g, 27, _, 8, true⟩]) rfl rfl rfl rfl rfl (fun _ => rfl) (fun g0 => ?_)
  refine r_box [_, _, _, _, _, _, _, _] 8 (fun g => [_, ⟨some g, 27, _, 8, true⟩]) rfl rfl rfl rfl rfl (fun _ => rfl) (fun g1 => ?_)
  refine r_alloc [_, _, _, _, _, _, _, _] 8 (fun g => [_, _, ⟨some g, 27, _, 8, true⟩]) rfl rfl z27 rfl rfl (fun _ => rfl) (fun g2 => ?_)
  refine run_nil ?_
  refine at_tn ?_
  refine at_seq ?_
  refine at_drawn (l' := [⟨_,_,_,_,_,_⟩, ⟨_,_,_,_,_,_⟩, ⟨_,_,_,_,_,_⟩, ⟨_,_,_,_,_,_⟩, ⟨_,_,_,_,_,_⟩, ⟨_,_,_,_,_,_⟩, ⟨_,_,_,_,_,_⟩, ⟨_,_,_,_,_,_⟩, ⟨_,_,_,_,_,_⟩, ⟨_,_,_,_,_,_⟩, ⟨_,_,_,_,_,_⟩, ⟨_,_,_,_,_,_⟩]) [] [0, 1, 2, 3, 5, 6, 7, 8, 4, 9, 10, 11] mixed (by kernel_rfl) rfl (by kernel_rfl) ?_
  refine r_fieldAddr 0 0 0 rfl rfl rfl rfl rfl ti27 rfl rfl ?_
  refine r_load 0 0 [_, _, _, _] rfl rfl rfl rfl ti25 rfl rfl rfl rfl ?_
  refine r_fieldAddr 1 0 0 rfl rfl rfl rfl rfl ti27 rfl rfl ?_
  refine r_load 1 0 [_, _, _, _] rfl rfl rfl rfl ti25 rfl rfl rfl rfl ?_
  refine r_fieldAddr 0 0 4 rfl rfl rfl rfl rfl ti27 rfl rfl ?_
  refine r_load 0 4 [_, _, _, _] rfl rfl rfl rfl ti25 rfl rfl rfl rfl ?_
  refine r_fieldAddr 1 0 4 rfl rfl rfl rfl rfl ti27 rfl rfl ?_
  refine r_load 1 4 [_, _, _, _] rfl rfl rfl rfl ti25 rfl rfl rfl rfl ?_
  refine r_pcall [_, _] rfl rfl rfl (c_rational_Sub p.1 q.1 (Nat.le_trans (szP1 hp) (Nat.le_of_ble_eq_true rfl)) (Nat.le_trans (szP1 hq) (Nat.le_of_ble_eq_true rfl))) ?_
  refine r_pcall [_, _] rfl rfl rfl (c_rational_Sub p.2 q.2 (Nat.le_trans (szP2 hp) (Nat.le_of_ble_eq_true rfl)) (Nat.le_trans (szP2 hq) (Nat.le_of_ble_eq_true rfl))) ?_
  refine r_build [(0, _), (1, _)] rfl rfl rfl (bd27_2) ?_
  refine r_store rfl 2 0 [_, _, ⟨some g2, 27, _, 8, true⟩] [_, _, _, _, _, _, _, _] rfl rfl rfl rfl ti27 rfl rfl rfl rfl rfl ?_
  refine run_nil ?_
  refine at_tn ?_
  refine at_ret ?_
  refine at_end1 rfl (res_cell 2 rfl rfl ti27 (vs := [_, _, _, _, _, _, _, _]) rfl rfl (Nat.le_of_ble_eq_true rfl) rfl) (fun w hL => ⟨?_, hL.below⟩)
  exact rfl
set_option maxRecDepth 20000 in
theorem c_plane_Dot (p q : P2) (hp : szP p ≤ 300000) (hq : szP q ≤ 300000) : PCall Tryz.prog 22 #[Pt p, Pt q] (Q (dot p q)) := by
  refine ⟨by kernel_rfl, fun w => ?_⟩
  refine calls_at (args := [Pt p, Pt q]) Tryz.func22 rfl (Nat.le_of_ble_eq_true rfl) (LRel.nil w) ?_
  show At w ⟨16, [(0, Pt p), (1, Pt q)], []⟩ _
  refine at_seq ?_
  refine at_region ?_
  refine r_box [_, _, _, _, _, _, _, _] 8 (fun g => [⟨some g, 27, _, 8, true⟩]) rfl rfl rfl rfl rfl (fun _ => rfl) (fun g0 => ?_)
  refine r_box [_, _, _, _, _, _, _, _] 8 (fun g => [_, ⟨some g, 27, _, 8, true⟩]) rfl rfl rfl rfl rfl (fun _ => rfl) (fun g1 => ?_)
  refine r_alloc [_, _, _, _] 4 (fun g => [_, _, ⟨some g, 25, _, 4, true⟩]) rfl rfl z25 rfl rfl (fun _ => rfl) (fun g2 => ?_)
  refine run_nil ?_
  refine at_tn ?_
  refine at_seq ?_
  refine at_drawn (l' := [⟨_,_,_,_,_,_⟩, ⟨_,_,_,_,_,_⟩, ⟨_,_,_,_,_,_⟩, ⟨_,_,_,_,_,_⟩, ⟨_,_,_,_,_,_⟩, ⟨_,_,_,_,_,_⟩, ⟨_,_,_,_,_,_⟩, ⟨_,_,_,_,_,_⟩, ⟨_,_,_,_,_,_⟩, ⟨_,_,_,_,_,_⟩, ⟨_,_,_,_,_,_⟩, ⟨_,_,_,_,_,_⟩]) [] [0, 1, 2, 3, 5, 6, 7, 8, 4, 9, 10, 11] mixed (by kernel_rfl) rfl (by kernel_rfl) ?_
  refine r_fieldAddr 0 0 0 rfl rfl rfl rfl rfl ti27 rfl rfl ?_
  refine r_load 0 0 [_, _, _, _] rfl rfl rfl rfl ti25 rfl rfl rfl rfl ?_
  refine r_fieldAddr 1 0 0 rfl rfl rfl rfl rfl ti27 rfl rfl ?_
  refine r_load 1 0 [_, _, _, _] rfl rfl rfl rfl ti25 rfl rfl rfl rfl ?_
  refine r_fieldAddr 0 0 4 rfl rfl rfl rfl rfl ti27 rfl rfl ?_
  refine r_load 0 4 [_, _, _, _] rfl rfl rfl rfl ti25 rfl rfl rfl rfl ?_
  refine r_fieldAddr 1 0 4 rfl rfl rfl rfl rfl ti27 rfl rfl ?_
  refine r_load 1 4 [_, _, _, _] rfl rfl rfl rfl ti25 rfl rfl rfl rfl ?_
  refine r_pcall [_, _] rfl rfl rfl (c_rational_Mul p.1 q.1 (Nat.le_trans (szP1 hp) (Nat.le_of_ble_eq_true rfl)) (Nat.le_trans (szP1 hq) (Nat.le_of_ble_eq_true rfl))) ?_
  refine r_pcall [_, _] rfl rfl rfl (c_rational_Mul p.2 q.2 (Nat.le_trans (szP2 hp) (Nat.le_of_ble_eq_true rfl)) (Nat.le_trans (szP2 hq) (Nat.le_of_ble_eq_true rfl))) ?_
  refine r_pcall [_, _] rfl rfl rfl (c_rational_Add (p.1 * q.1) (p.2 * q.2) (Nat.le_trans (szQ_mul (szP1 hp) (szP1 hq)) (Nat.le_of_ble_eq_true rfl)) (Nat.le_trans (szQ_mul (szP2 hp) (szP2 hq)) (Nat.le_of_ble_eq_true rfl))) ?_
  refine r_store rfl 2 0 [_, _, ⟨some g2, 25, _, 4, true⟩] [_, _, _, _] rfl rfl rfl rfl ti25 rfl rfl rfl rfl rfl ?_
  refine run_nil ?_
  refine at_tn ?_
  refine at_ret ?_
  refine at_end1 rfl (res_cell 2 rfl rfl ti25 (vs := [_, _, _, _]) rfl rfl (Nat.le_of_ble_eq_true rfl) rfl) (fun w hL => ⟨?_, hL.below⟩)
  exact rfl
set_option maxRecDepth 20000 in
theorem c_plane_CrossProduct (p q : P2) (hp : szP p ≤ 300000) (hq : szP q ≤ 300000) : PCall Tryz.prog 24 #[Pt p, Pt q] (Q (crs p q)) := by
  refine ⟨by kernel_rfl, fun w => ?_⟩
  refine calls_at (args := [Pt p, Pt q]) Tryz.func24 rfl (Nat.le_of_ble_eq_true rfl) (LRel.nil w) ?_
  show At w ⟨16, [(0, Pt p), (1, Pt q)], []⟩ _
  refine at_seq ?_
  refine at_region ?_
  refine r_box [_, _, _, _, _, _, _, _] 8 (fun g => [⟨some g, 27, _, 8, true⟩]) rfl rfl rfl rfl rfl (fun _ => rfl) (fun g0 => ?_)
  refine r_box [_, _, _, _, _, _, _, _] 8 (fun g => [_, ⟨some g, 27, _, 8, true⟩]) rfl rfl rfl rfl rfl (fun _ => rfl) (fun g1 => ?_)
  refine r_alloc [_, _, _, _] 4 (fun g => [_, _, ⟨some g, 25, _, 4, true⟩]) rfl rfl z25 rfl rfl (fun _ => rfl) (fun g2 => ?_)
  refine run_nil ?_
  refine at_tn ?_
  refine at_seq ?_
  refine at_drawn (l' := [⟨_,_,_,_,_,_⟩, ⟨_,_,_,_,_,_⟩, ⟨_,_,_,_,_,_⟩, ⟨_,_,_,_,_,_⟩, ⟨_,_,_,_,_,_⟩, ⟨_,_,_,_,_,_⟩, ⟨_,_,_,_,_,_⟩, ⟨_,_,_,_,_,_⟩, ⟨_,_,_,_,_,_⟩, ⟨_,_,_,_,_,_⟩, ⟨_,_,_,_,_,_⟩, ⟨_,_,_,_,_,_⟩]) [] [0, 1, 2, 3, 5, 6, 7, 8, 4, 9, 10, 11] mixed (by kernel_rfl) rfl (by kernel_rfl) ?_
  refine r_fieldAddr 0 0 0 rfl rfl rfl rfl rfl ti27 rfl rfl ?_
  refine r_load 0 0 [_, _, _, _] rfl rfl rfl rfl ti25 rfl rfl rfl rfl ?_
  refine r_fieldAddr 1 0 4 rfl rfl rfl rfl rfl ti27 rfl rfl ?_
  refine r_load 1 4 [_, _, _, _] rfl rfl rfl rfl ti25 rfl rfl rfl rfl ?_
  refine r_fieldAddr 0 0 4 rfl rfl rfl rfl rfl ti27 rfl rfl ?_
  refine r_load 0 4 [_, _, _, _] rfl rfl rfl rfl ti25 rfl rfl rfl rfl ?_
  refine r_fieldAddr 1 0 0 rfl rfl rfl rfl rfl ti27 rfl rfl ?_
  refine r_load 1 0 [_, _, _, _] rfl rfl rfl rfl ti25 rfl rfl rfl rfl ?_
  refine r_pcall [_, _] rfl rfl rfl (c_rational_Mul p.1 q.2 (Nat.le_trans (szP1 hp) (Nat.le_of_ble_eq_true rfl)) (Nat.le_trans (szP2 hq) (Nat.le_of_ble_eq_true rfl))) ?_
  refine r_pcall [_, _] rfl rfl rfl (c_rational_Mul p.2 q.1 (Nat.le_trans (szP2 hp) (Nat.le_of_ble_eq_true rfl)) (Nat.le_trans (szP1 hq) (Nat.le_of_ble_eq_true rfl))) ?_
  refine r_pcall [_, _] rfl rfl rfl (c_rational_Sub (p.1 * q.2) (p.2 * q.1) (Nat.le_trans (szQ_mul (szP1 hp) (szP2 hq)) (Nat.le_of_ble_eq_true rfl)) (Nat.le_trans (szQ_mul (szP2 hp) (szP1 hq)) (Nat.le_of_ble_eq_true rfl))) ?_
  refine r_store rfl 2 0 [_, _, ⟨some g2, 25, _, 4, true⟩] [_, _, _, _] rfl rfl rfl rfl ti25 rfl rfl rfl rfl rfl ?_
  refine run_nil ?_
  refine at_tn ?_
  refine at_ret ?_
  refine at_end1 rfl (res_cell 2 rfl rfl ti25 (vs := [_, _, _, _]) rfl rfl (Nat.le_of_ble_eq_true rfl) rfl) (fun w hL => ⟨?_, hL.below⟩)
  exact rfl
set_option maxRecDepth 20000 in
theorem c_plane_Compare (p q : P2) (hp : szP p ≤ 1000000) (hq : szP q ≤ 1000000) : PCall Tryz.prog 31 #[Pt p, Pt q] (.int .i64 (cmpP p q)) := by
  refine ⟨by kernel_rfl, fun w => ?_⟩
  refine calls_at (args := [Pt p, Pt q]) Tryz.func31 rfl (Nat.le_of_ble_eq_true rfl) (LRel.nil w) ?_
  show At w ⟨19, [(0, Pt p), (1, Pt q)], []⟩ _
  refine at_seq ?_
  refine at_region ?_
  refine r_box [_, _, _, _, _, _, _, _] 8 (fun g => [⟨some g, 27, _, 8, true⟩]) rfl rfl rfl rfl rfl (fun _ => rfl) (fun g0 => ?_)
  refine r_box [_, _, _, _, _, _, _, _] 8 (fun g => [_, ⟨some g, 27, _, 8, true⟩]) rfl rfl rfl rfl rfl (fun _ => rfl) (fun g1 => ?_)
  refine r_assign rfl rfl rfl ?_
  refine run_nil ?_
  refine at_tn ?_
  refine at_seq ?_
  refine at_seq ?_
  refine at_region ?_
  refine r_fieldAddr 0 0 0 rfl rfl rfl rfl rfl ti27 rfl rfl ?_
  refine r_load 0 0 [_, _, _, _] rfl rfl rfl rfl ti25 rfl rfl rfl rfl ?_
  refine r_fieldAddr 1 0 0 rfl rfl rfl rfl rfl ti27 rfl rfl ?_
  refine r_load 1 0 [_, _, _, _] rfl rfl rfl rfl ti25 rfl rfl rfl rfl ?_
  refine r_pcall [_, _] rfl rfl rfl (c_rational_Compare p.1 q.1 (Nat.le_trans (szP1 hp) (Nat.le_of_ble_eq_true rfl)) (Nat.le_trans (szP1 hq) (Nat.le_of_ble_eq_true rfl))) ?_
  refine r_assign rfl rfl rfl ?_
  refine run_nil ?_
  refine at_tn ?_
  refine at_seq ?_
  refine at_region ?_
  refine r_move rfl rfl rfl ?_
  refine r_cmpInt rfl rfl rfl rfl rfl ?_
  refine run_nil ?_
  refine at_tn ?_
  refine at_cond rfl (fun hb0 => ?_) (fun hb0 => ?_)
  ·
    refine at_seq ?_
    refine at_region ?_
    refine r_move rfl rfl rfl ?_
    refine r_assign rfl rfl rfl ?_
    refine run_nil ?_
    refine at_tn ?_
    refine at_ret ?_
    refine at_tr ?_
    refine at_end1 rfl (res_tmp rfl) (fun w hL => ⟨?_, hL.below⟩)
    exact congrArg (fun z => Ending.returned (.int .i64 z)) (cmpP_T hb0)
  ·
    refine at_skip ?_
    refine at_tn ?_
    refine at_seq ?_
    refine at_region ?_
    refine r_fieldAddr 0 0 4 rfl rfl rfl rfl rfl ti27 rfl rfl ?_
    refine r_load 0 4 [_, _, _, _] rfl rfl rfl rfl ti25 rfl rfl rfl rfl ?_
    refine r_fieldAddr 1 0 4 rfl rfl rfl rfl rfl ti27 rfl rfl ?_
    refine r_load 1 4 [_, _, _, _] rfl rfl rfl rfl ti25 rfl rfl rfl rfl ?_
    refine r_pcall [_, _] rfl rfl rfl (c_rational_Compare p.2 q.2 (Nat.le_trans (szP2 hp) (Nat.le_of_ble_eq_true rfl)) (Nat.le_trans (szP2 hq) (Nat.le_of_ble_eq_true rfl))) ?_
    refine r_assign rfl rfl rfl ?_
    refine run_nil ?_
    refine at_tn ?_
    refine at_ret ?_
    refine at_end1 rfl (res_tmp rfl) (fun w hL => ⟨?_, hL.below⟩)
    exact congrArg (fun z => Ending.returned (.int .i64 z)) (cmpP_F hb0)
set_option maxRecDepth 20000 in
theorem c_plane_Orientation (a b c : P2) (ha : szP a ≤ 100000) (hb : szP b ≤ 100000) (hc : szP c ≤ 100000) : PCall Tryz.prog 37 #[Pt a, Pt b, Pt c] (.int .i64 (ori a b c)) := by
  refine ⟨by kernel_rfl, fun w => ?_⟩
  refine calls_at (args := [Pt a, Pt b, Pt c]) Tryz.func37 rfl (Nat.le_of_ble_eq_true rfl) (LRel.nil w) ?_
  show At w ⟨15, [(0, Pt a), (1, Pt b), (2, Pt c)], []⟩ _
  refine at_seq ?_
  refine at_region ?_
  refine r_box [_, _, _, _, _, _, _, _] 8 (fun g => [⟨some g, 27, _, 8, true⟩]) rfl rfl rfl rfl rfl (fun _ => rfl) (fun g0 => ?_)
  refine r_box [_, _, _, _, _, _, _, _] 8 (fun g => [_, ⟨some g, 27, _, 8, true⟩]) rfl rfl rfl rfl rfl (fun _ => rfl) (fun g1 => ?_)
  refine r_box [_, _, _, _, _, _, _, _] 8 (fun g => [_, _, ⟨some g, 27, _, 8, true⟩]) rfl rfl rfl rfl rfl (fun _ => rfl) (fun g2 => ?_)
  refine r_assign rfl rfl rfl ?_
  refine run_nil ?_
  refine at_tn ?_
  refine at_seq ?_
  refine at_drawn (l' := [⟨_,_,_,_,_,_⟩, ⟨_,_,_,_,_,_⟩, ⟨_,_,_,_,_,_⟩, ⟨_,_,_,_,_,_⟩, ⟨_,_,_,_,_,_⟩, ⟨_,_,_,_,_,_⟩, ⟨_,_,_,_,_,_⟩, ⟨_,_,_,_,_,_⟩, ⟨_,_,_,_,_,_⟩]) [] [0, 1, 3, 4, 2, 5, 6, 7, 8] mixed (by kernel_rfl) rfl (by kernel_rfl) ?_
  refine r_load 1 0 [_, _, _, _, _, _, _, _] rfl rfl rfl rfl ti27 rfl rfl rfl rfl ?_
  refine r_load 0 0 [_, _, _, _, _, _, _, _] rfl rfl rfl rfl ti27 rfl rfl rfl rfl ?_
  refine r_load 2 0 [_, _, _, _, _, _, _, _] rfl rfl rfl rfl ti27 rfl rfl rfl rfl ?_
  refine r_load 0 0 [_, _, _, _, _, _, _, _] rfl rfl rfl rfl ti27 rfl rfl rfl rfl ?_
  refine r_pcall [_, _] rfl rfl rfl (c_plane_Sub b a (szPm (Nat.le_trans (szP1 hb) (Nat.le_of_ble_eq_true rfl)) (Nat.le_trans (szP2 hb) (Nat.le_of_ble_eq_true rfl))) (szPm (Nat.le_trans (szP1 ha) (Nat.le_of_ble_eq_true rfl)) (Nat.le_trans (szP2 ha) (Nat.le_of_ble_eq_true rfl)))) ?_
  refine r_pcall [_, _] rfl rfl rfl (c_plane_Sub c a (szPm (Nat.le_trans (szP1 hc) (Nat.le_of_ble_eq_true rfl)) (Nat.le_trans (szP2 hc) (Nat.le_of_ble_eq_true rfl))) (szPm (Nat.le_trans (szP1 ha) (Nat.le_of_ble_eq_true rfl)) (Nat.le_trans (szP2 ha) (Nat.le_of_ble_eq_true rfl)))) ?_
  refine r_pcall [_, _] rfl rfl rfl (c_plane_CrossProduct (pSub b a) (pSub c a) (szPm (Nat.le_trans (szQ_sub (szP1 hb) (szP1 ha)) (Nat.le_of_ble_eq_true rfl)) (Nat.le_trans (szQ_sub (szP2 hb) (szP2 ha)) (Nat.le_of_ble_eq_true rfl))) (szPm (Nat.le_trans (szQ_sub (szP1 hc) (szP1 ha)) (Nat.le_of_ble_eq_true rfl)) (Nat.le_trans (szQ_sub (szP2 hc) (szP2 ha)) (Nat.le_of_ble_eq_true rfl)))) ?_
  refine r_pcall [_] rfl rfl rfl (c_rational_Sign (crs (pSub b a) (pSub c a))) ?_
  refine r_assign rfl rfl rfl ?_
  refine run_nil ?_
  refine at_tn ?_
  refine at_ret ?_
  refine at_end1 rfl (res_tmp rfl) (fun w hL => ⟨?_, hL.below⟩)
  exact rfl
set_option maxRecDepth 20000 in
theorem c_plane_Divide (s : S2) (r : Rat) (hs : szS s ≤ 200000) (hr : szQ r ≤ 200000) : PCall Tryz.prog 29 #[Sg s, Q r] (Pt (divP s r)) := by
  refine ⟨by kernel_rfl, fun w => ?_⟩
  refine calls_at (args := [Sg s, Q r]) Tryz.func29 rfl (Nat.le_of_ble_eq_true rfl) (LRel.nil w) ?_
  show At w ⟨15, [(0, Sg s), (1, Q r)], []⟩ _
  refine at_seq ?_
  refine at_region ?_
  refine r_box [_, _, _, _, _, _, _, _, _, _, _, _, _, _, _, _] 16 (fun g => [⟨some g, 36, _, 16, true⟩]) rfl rfl rfl rfl rfl (fun _ => rfl) (fun g0 => ?_)
  refine r_box [_, _, _, _] 4 (fun g => [_, ⟨some g, 25, _, 4, true⟩]) rfl rfl rfl rfl rfl (fun _ => rfl) (fun g1 => ?_)
  refine r_alloc [_, _, _, _, _, _, _, _] 8 (fun g => [_, _, ⟨some g, 27, _, 8, true⟩]) rfl rfl z27 rfl rfl (fun _ => rfl) (fun g2 => ?_)
  refine run_nil ?_
  refine at_tn ?_
  refine at_seq ?_
  refine at_drawn (l' := [⟨_,_,_,_,_,_⟩, ⟨_,_,_,_,_,_⟩, ⟨_,_,_,_,_,_⟩, ⟨_,_,_,_,_,_⟩, ⟨_,_,_,_,_,_⟩, ⟨_,_,_,_,_,_⟩, ⟨_,_,_,_,_,_⟩, ⟨_,_,_,_,_,_⟩, ⟨_,_,_,_,_,_⟩, ⟨_,_,_,_,_,_⟩, ⟨_,_,_,_,_,_⟩]) [] [0, 1, 2, 3, 4, 5, 7, 6, 8, 9, 10] mixed (by kernel_rfl) rfl (by kernel_rfl) ?_
  refine r_fieldAddr 0 0 0 rfl rfl rfl rfl rfl ti36 rfl rfl ?_
  refine r_load 0 0 [_, _, _, _, _, _, _, _] rfl rfl rfl rfl ti27 rfl rfl rfl rfl ?_
  refine r_fieldAddr 0 0 8 rfl rfl rfl rfl rfl ti36 rfl rfl ?_
  refine r_load 0 8 [_, _, _, _, _, _, _, _] rfl rfl rfl rfl ti27 rfl rfl rfl rfl ?_
  refine r_fieldAddr 0 0 0 rfl rfl rfl rfl rfl ti36 rfl rfl ?_
  refine r_load 0 0 [_, _, _, _, _, _, _, _] rfl rfl rfl rfl ti27 rfl rfl rfl rfl ?_
  refine r_load 1 0 [_, _, _, _] rfl rfl rfl rfl ti25 rfl rfl rfl rfl ?_
  refine r_pcall [_, _] rfl rfl rfl (c_plane_Sub s.2 s.1 (szPm (Nat.le_trans (szP1 (szS2 hs)) (Nat.le_of_ble_eq_true rfl)) (Nat.le_trans (szP2 (szS2 hs)) (Nat.le_of_ble_eq_true rfl))) (szPm (Nat.le_trans (szP1 (szS1 hs)) (Nat.le_of_ble_eq_true rfl)) (Nat.le_trans (szP2 (szS1 hs)) (Nat.le_of_ble_eq_true rfl)))) ?_
  refine r_pcall [_, _] rfl rfl rfl (c_plane_Scale (pSub s.2 s.1) r (szPm (Nat.le_trans (szQ_sub (szP1 (szS2 hs)) (szP1 (szS1 hs))) (Nat.le_of_ble_eq_true rfl)) (Nat.le_trans (szQ_sub (szP2 (szS2 hs)) (szP2 (szS1 hs))) (Nat.le_of_ble_eq_true rfl))) (Nat.le_trans hr (Nat.le_of_ble_eq_true rfl))) ?_
  refine r_pcall [_, _] rfl rfl rfl (c_plane_Add s.1 (pScale (pSub s.2 s.1) r) (szPm (Nat.le_trans (szP1 (szS1 hs)) (Nat.le_of_ble_eq_true rfl)) (Nat.le_trans (szP2 (szS1 hs)) (Nat.le_of_ble_eq_true rfl))) (szPm (Nat.le_trans (szQ_mul (szQ_sub (szP1 (szS2 hs)) (szP1 (szS1 hs))) hr) (Nat.le_of_ble_eq_true rfl)) (Nat.le_trans (szQ_mul (szQ_sub (szP2 (szS2 hs)) (szP2 (szS1 hs))) hr) (Nat.le_of_ble_eq_true rfl)))) ?_
  refine r_store rfl 2 0 [_, _, ⟨some g2, 27, _, 8, true⟩] [_, _, _, _, _, _, _, _] rfl rfl rfl rfl ti27 rfl rfl rfl rfl rfl ?_
  refine run_nil ?_
  refine at_tn ?_
  refine at_ret ?_
  refine at_end1 rfl (res_cell 2 rfl rfl ti27 (vs := [_, _, _, _, _, _, _, _]) rfl rfl (Nat.le_of_ble_eq_true rfl) rfl) (fun w hL => ⟨?_, hL.below⟩)
  exact rfl
end Go.Proofs.YthnlafhnpphdhaaGreatDoor
set_option linter.unusedVariables false
namespace Go.Proofs.YthnlafhnpphdhaaGreatDoor
open Go Go.RowKit Go.Via
set_option maxRecDepth 20000 in
theorem c_plane_OnSegment (p : P2) (s : S2) (hp : szP p ≤ 100000) (hs : szS s ≤ 100000) : PCall Tryz.prog 28 #[Pt p, Sg s] (.bool (decide (onS p s))) := by
  have hc1 := cmpP_cases s.1 p
  have hc2 := cmpP_cases p s.2
  have hc3 : -1 ≤ cmpP s.1 p * cmpP p s.2 ∧ cmpP s.1 p * cmpP p s.2 ≤ 1 := by rcases hc1 with h | h | h <;> rcases hc2 with g | g | g <;> rw [h, g] <;> decide
  refine ⟨by kernel_rfl, fun w => ?_⟩
  refine calls_at (args := [Pt p, Sg s]) Tryz.func28 rfl (Nat.le_of_ble_eq_true rfl) (LRel.nil w) ?_
  show At w ⟨39, [(0, Pt p), (1, Sg s)], []⟩ _
  refine at_seq ?_
  refine at_region ?_
  refine r_box [_, _, _, _, _, _, _, _] 8 (fun g => [⟨some g, 27, _, 8, true⟩]) rfl rfl rfl rfl rfl (fun _ => rfl) (fun g0 => ?_)
  refine r_box [_, _, _, _, _, _, _, _, _, _, _, _, _, _, _, _] 16 (fun g => [_, ⟨some g, 36, _, 16, true⟩]) rfl rfl rfl rfl rfl (fun _ => rfl) (fun g1 => ?_)
  refine r_assign rfl rfl rfl ?_
  refine run_nil ?_
  refine at_tn ?_
  refine at_seq ?_
  refine at_seq ?_
  refine at_region ?_
  refine r_fieldAddr 1 0 0 rfl rfl rfl rfl rfl ti36 rfl rfl ?_
  refine r_load 1 0 [_, _, _, _, _, _, _, _] rfl rfl rfl rfl ti27 rfl rfl rfl rfl ?_
  refine r_fieldAddr 1 0 8 rfl rfl rfl rfl rfl ti36 rfl rfl ?_
  refine r_load 1 8 [_, _, _, _, _, _, _, _] rfl rfl rfl rfl ti27 rfl rfl rfl rfl ?_
  refine r_load 0 0 [_, _, _, _, _, _, _, _] rfl rfl rfl rfl ti27 rfl rfl rfl rfl ?_
  refine r_pcall [_, _, _] rfl rfl rfl (c_plane_Orientation s.1 s.2 p (szPm (Nat.le_trans (szP1 (szS1 hs)) (Nat.le_of_ble_eq_true rfl)) (Nat.le_trans (szP2 (szS1 hs)) (Nat.le_of_ble_eq_true rfl))) (szPm (Nat.le_trans (szP1 (szS2 hs)) (Nat.le_of_ble_eq_true rfl)) (Nat.le_trans (szP2 (szS2 hs)) (Nat.le_of_ble_eq_true rfl))) (szPm (Nat.le_trans (szP1 hp) (Nat.le_of_ble_eq_true rfl)) (Nat.le_trans (szP2 hp) (Nat.le_of_ble_eq_true rfl)))) ?_
  refine r_cmpInt rfl rfl rfl rfl rfl ?_
  refine run_nil ?_
  refine at_tn ?_
  refine at_cond rfl (fun hb0 => ?_) (fun hb0 => ?_)
  ·
    refine at_seq ?_
    refine at_region ?_
    refine r_assign rfl rfl rfl ?_
    refine run_nil ?_
    refine at_tn ?_
    refine at_ret ?_
    refine at_tr ?_
    refine at_end1 rfl (res_tmp rfl) (fun w hL => ⟨?_, hL.below⟩)
    clear hc1 hc2 hc3
    exact congrArg (fun z => Ending.returned (.bool z)) (by first | (simp_all [onS]; done) | (simp_all [onS]; omega))
  ·
    refine at_skip ?_
    refine at_tn ?_
    refine at_seq ?_
    refine at_drawn (l' := [⟨_,_,_,_,_,_⟩, ⟨_,_,_,_,_,_⟩, ⟨_,_,_,_,_,_⟩, ⟨_,_,_,_,_,_⟩, ⟨_,_,_,_,_,_⟩, ⟨_,_,_,_,_,_⟩, ⟨_,_,_,_,_,_⟩, ⟨_,_,_,_,_,_⟩, ⟨_,_,_,_,_,_⟩, ⟨_,_,_,_,_,_⟩]) [] [0, 1, 2, 4, 5, 6, 3, 7, 8, 9] mixed (by kernel_rfl) rfl (by kernel_rfl) ?_
    refine r_fieldAddr 1 0 0 rfl rfl rfl rfl rfl ti36 rfl rfl ?_
    refine r_load 1 0 [_, _, _, _, _, _, _, _] rfl rfl rfl rfl ti27 rfl rfl rfl rfl ?_
    refine r_load 0 0 [_, _, _, _, _, _, _, _] rfl rfl rfl rfl ti27 rfl rfl rfl rfl ?_
    refine r_load 0 0 [_, _, _, _, _, _, _, _] rfl rfl rfl rfl ti27 rfl rfl rfl rfl ?_
    refine r_fieldAddr 1 0 8 rfl rfl rfl rfl rfl ti36 rfl rfl ?_
    refine r_load 1 8 [_, _, _, _, _, _, _, _] rfl rfl rfl rfl ti27 rfl rfl rfl rfl ?_
    refine r_pcall [_, _] rfl rfl rfl (c_plane_Compare s.1 p (szPm (Nat.le_trans (szP1 (szS1 hs)) (Nat.le_of_ble_eq_true rfl)) (Nat.le_trans (szP2 (szS1 hs)) (Nat.le_of_ble_eq_true rfl))) (szPm (Nat.le_trans (szP1 hp) (Nat.le_of_ble_eq_true rfl)) (Nat.le_trans (szP2 hp) (Nat.le_of_ble_eq_true rfl)))) ?_
    refine r_pcall [_, _] rfl rfl rfl (c_plane_Compare p s.2 (szPm (Nat.le_trans (szP1 hp) (Nat.le_of_ble_eq_true rfl)) (Nat.le_trans (szP2 hp) (Nat.le_of_ble_eq_true rfl))) (szPm (Nat.le_trans (szP1 (szS2 hs)) (Nat.le_of_ble_eq_true rfl)) (Nat.le_trans (szP2 (szS2 hs)) (Nat.le_of_ble_eq_true rfl)))) ?_
    refine r_assign rfl rfl rfl ?_
    refine r_assign rfl rfl rfl ?_
    refine run_nil ?_
    refine at_tn ?_
    refine at_seq ?_
    refine at_region ?_
    refine r_move rfl rfl rfl ?_
    refine r_move rfl rfl rfl ?_
    refine r_arith (r := cmpP s.1 p * cmpP p s.2) rfl rfl rfl rfl (congrArg some (wi (by omega) (by omega) rfl)) ?_
    refine r_cmpInt rfl rfl rfl rfl rfl ?_
    refine r_move rfl rfl rfl ?_
    refine r_split 26 rfl (fun hb1 => ?_) (fun hb1 => ?_)
    ·
      refine r_fieldAddr 1 0 0 rfl rfl rfl rfl rfl ti36 rfl rfl ?_
      refine r_load 1 0 [_, _, _, _, _, _, _, _] rfl rfl rfl rfl ti27 rfl rfl rfl rfl ?_
      refine r_fieldAddr 1 0 8 rfl rfl rfl rfl rfl ti36 rfl rfl ?_
      refine r_load 1 8 [_, _, _, _, _, _, _, _] rfl rfl rfl rfl ti27 rfl rfl rfl rfl ?_
      refine r_neqAgg rfl rfl rfl rfl gd27 (eq27 _ _) ?_
      refine r_move rfl rfl rfl ?_
      refine r_split 32 rfl (fun hb2 => ?_) (fun hb2 => ?_)
      ·
        refine r_no rfl rfl rfl ?_
        refine r_no rfl rfl rfl ?_
        refine r_no rfl rfl rfl ?_
        refine r_no rfl rfl rfl ?_
        refine r_pickT rfl rfl rfl rfl ?_
        refine r_pickT rfl rfl rfl rfl ?_
        refine r_assign rfl rfl rfl ?_
        refine run_nil ?_
        refine at_tn ?_
        refine at_ret ?_
        refine at_end1 rfl (res_tmp rfl) (fun w hL => ⟨?_, hL.below⟩)
        clear hc1 hc2 hc3
        exact congrArg (fun z => Ending.returned (.bool z)) (by first | (simp_all [onS]; done) | (simp_all [onS]; omega))
      ·
        refine r_load 0 0 [_, _, _, _, _, _, _, _] rfl rfl rfl rfl ti27 rfl rfl rfl rfl ?_
        refine r_fieldAddr 1 0 0 rfl rfl rfl rfl rfl ti36 rfl rfl ?_
        refine r_load 1 0 [_, _, _, _, _, _, _, _] rfl rfl rfl rfl ti27 rfl rfl rfl rfl ?_
        refine r_eqlAgg rfl rfl rfl rfl gd27 (eq27 _ _) ?_
        refine r_pickF rfl rfl rfl rfl ?_
        refine r_pickT rfl rfl rfl rfl ?_
        refine r_assign rfl rfl rfl ?_
        refine run_nil ?_
        refine at_tn ?_
        refine at_ret ?_
        refine at_end1 rfl (res_tmp rfl) (fun w hL => ⟨?_, hL.below⟩)
        clear hc1 hc2 hc3
        exact congrArg (fun z => Ending.returned (.bool z)) (by first | (simp_all [onS]; done) | (simp_all [onS]; omega))
    ·
      refine r_no rfl rfl rfl ?_
      refine r_no rfl rfl rfl ?_
      refine r_no rfl rfl rfl ?_
      refine r_no rfl rfl rfl ?_
      refine r_no rfl rfl rfl ?_
      refine r_no rfl rfl rfl ?_
      refine r_no rfl rfl rfl ?_
      refine r_no rfl rfl rfl ?_
      refine r_no rfl rfl rfl ?_
      refine r_no rfl rfl rfl ?_
      refine r_no rfl rfl rfl ?_
      refine r_pickF rfl rfl rfl rfl ?_
      refine r_assign rfl rfl rfl ?_
      refine run_nil ?_
      refine at_tn ?_
      refine at_ret ?_
      refine at_end1 rfl (res_tmp rfl) (fun w hL => ⟨?_, hL.below⟩)
      clear hc1 hc2 hc3
      exact congrArg (fun z => Ending.returned (.bool z)) (by first | (simp_all [onS]; done) | (simp_all [onS]; omega))
end Go.Proofs.YthnlafhnpphdhaaGreatDoor
