/-
  Part 8: lemmas, and walks through the functions that the laws of chapter 26 call. Each theorem states its own conditions.
-/
import Derived.Test.YtncogghlhlnmaaaGreatDoorA02
import Derived.Test.YtncogghlhlnmaaaGreatDoorA05
import Derived.Test.YtncogghlhlnmaaaGreatDoorA06
import Derived.Test.YtncogghlhlnmaaaGreatDoorA07
set_option linter.unusedVariables false
set_option linter.unusedVariables false
namespace Go.Proofs.YtncogghlhlnmaaaGreatDoor
open Go Go.RowKit Go.Via
set_option maxRecDepth 20000 in
theorem c_integer_made (b : Bool) (n : Nat) : PCall Tryz.prog 77 #[.bool b, .string (mag n)] (I (if b = true then -(n : Int) else (n : Int))) := by
 refine ⟨by kernel_rfl, fun w => ?_⟩
 refine calls_at (args := [.bool b, .string (mag n)]) Tryz.func77 rfl (Nat.le_of_ble_eq_true rfl) (LRel.nil w) ?_
 show At w ⟨12, [(0, .bool b), (1, .string (mag n))], []⟩ _
 refine at_seq (at_region ?_)
 refine r_alloc [_, _] 2 (fun g => [⟨some g, 61, _, 2, true⟩]) rfl rfl z61 rfl rfl (fun _ => rfl) (fun g0 => ?_)
 refine run_nil (at_tn (at_seq (at_region (r_move rfl rfl rfl (r_move rfl rfl rfl ?_)))))
 refine r_split 6 rfl (fun hb0 => ?_) (fun hb0 => ?_)
 ·
  refine r_move rfl rfl rfl (r_neqStr rfl rfl rfl rfl (r_pickT rfl rfl rfl rfl (r_move rfl rfl rfl ?_)))
  refine r_build [(0, _), (1, _)] rfl rfl rfl (bd61_2) ?_
  refine r_store rfl 0 0 [⟨some g0, 61, _, 2, true⟩] [_, _] rfl rfl rfl rfl ti61 rfl rfl rfl rfl rfl ?_
  refine run_nil (at_tn (at_ret ?_))
  refine at_end1 rfl (res_cell 0 rfl rfl ti61 (vs := [_, _]) rfl rfl (Nat.le_of_ble_eq_true rfl) rfl) (fun w hL => ⟨?_, hL.below⟩)
  subst hb0; exact congrArg Ending.returned (made_T n)
 ·
  refine r_no rfl rfl rfl (r_no rfl rfl rfl (r_pickF rfl rfl rfl rfl (r_move rfl rfl rfl ?_)))
  refine r_build [(0, _), (1, _)] rfl rfl rfl (bd61_2) ?_
  refine r_store rfl 0 0 [⟨some g0, 61, _, 2, true⟩] [_, _] rfl rfl rfl rfl ti61 rfl rfl rfl rfl rfl ?_
  refine run_nil (at_tn (at_ret ?_))
  refine at_end1 rfl (res_cell 0 rfl rfl ti61 (vs := [_, _]) rfl rfl (Nat.le_of_ble_eq_true rfl) rfl) (fun w hL => ⟨?_, hL.below⟩)
  subst hb0; exact congrArg Ending.returned (made_F n)
set_option maxRecDepth 20000 in
theorem c_integer_Sign (z : Int) : PCall Tryz.prog 75 #[I z] (.int .i64 z.sign) := by
 refine ⟨by kernel_rfl, fun w => ?_⟩
 refine calls_at (args := [I z]) Tryz.func75 rfl (Nat.le_of_ble_eq_true rfl) (LRel.nil w) ?_
 show At w ⟨10, [(0, I z)], []⟩ _
 refine at_seq (at_region ?_)
 refine r_box [_, _] 2 (fun g => [⟨some g, 61, _, 2, true⟩]) rfl rfl rfl rfl rfl (fun _ => rfl) (fun g0 => ?_)
 refine r_assign rfl rfl rfl (run_nil (at_tn (at_seq (at_block (at_seq (at_region (r_fieldAddr 0 0 1 rfl rfl rfl rfl rfl ti61 rfl rfl (r_load 0 1 [_] rfl rfl rfl rfl ti9 rfl rfl rfl rfl (r_eqlStr rfl rfl rfl rfl (r_assign rfl rfl rfl (run_nil (at_tn ?_))))))))))))
 refine at_cond rfl (fun hb0 => ?_) (fun hb0 => ?_)
 ·
  refine at_seq (at_region (r_assign rfl rfl rfl (run_nil (at_tn (at_ret (at_br (at_tr ?_)))))))
  refine at_end1 rfl (res_tmp rfl) (fun w hL => ⟨?_, hL.below⟩)
  exact congrArg (fun z => Ending.returned (.int .i64 z)) (sign_zero z hb0)
 ·
  refine at_seq (at_region (r_fieldAddr 0 0 0 rfl rfl rfl rfl rfl ti61 rfl rfl (r_load 0 0 [_] rfl rfl rfl rfl ti4 rfl rfl rfl rfl (r_assign rfl rfl rfl (run_nil (at_tn ?_))))))
  refine at_cond rfl (fun hb1 => ?_) (fun hb1 => ?_)
  ·
   refine at_seq (at_region (r_assign rfl rfl rfl (run_nil (at_tn (at_ret (at_br (at_tr ?_)))))))
   refine at_end1 rfl (res_tmp rfl) (fun w hL => ⟨?_, hL.below⟩)
   exact congrArg (fun z => Ending.returned (.int .i64 z)) (sign_neg z hb1)
  ·
   refine at_skip (at_bn (at_tn (at_seq (at_region (r_assign rfl rfl rfl (run_nil (at_tn (at_ret ?_))))))))
   refine at_end1 rfl (res_tmp rfl) (fun w hL => ⟨?_, hL.below⟩)
   exact congrArg (fun z => Ending.returned (.int .i64 z)) (sign_pos z hb0 hb1)
set_option maxRecDepth 20000 in
theorem c_integer_FromInt (z : Int) (h1 : -9223372036854775808 ≤ z) (h2 : z ≤ 9223372036854775807) : PCall Tryz.prog 59 #[.int .i64 z] (I z) := by
 refine ⟨by kernel_rfl, fun w => ?_⟩
 refine calls_at (args := [.int .i64 z]) Tryz.func59 rfl (Nat.le_of_ble_eq_true rfl) (LRel.nil w) ?_
 show At w ⟨15, [(0, .int .i64 z)], []⟩ _
 refine at_seq (at_region ?_)
 refine r_alloc [_, _] 2 (fun g => [⟨some g, 61, _, 2, true⟩]) rfl rfl z61 rfl rfl (fun _ => rfl) (fun g0 => ?_)
 refine run_nil (at_tn (at_seq (at_region (r_move rfl rfl rfl ?_))))
 refine r_conv (r := z % 18446744073709551616) u3 u116 rfl rfl rfl (wu64 z) ?_
 refine r_assign rfl rfl rfl (run_nil (at_tn (at_seq (at_seq (at_region (r_move rfl rfl rfl (r_cmpInt rfl rfl rfl rfl rfl (run_nil (at_tn ?_)))))))))
 refine at_cond rfl (fun hb0 => ?_) (fun hb0 => ?_)
 ·
  refine at_region (r_move rfl rfl rfl ?_)
  refine r_neg (r := ((z.natAbs : Nat) : Int)) rfl rfl rfl ((by rw [wu64]; have := of_decide_eq_true hb0; omega)) ?_
  refine r_assign rfl rfl rfl (run_nil (at_tn (at_seq (at_region (r_move rfl rfl rfl (r_cmpInt rfl rfl rfl rfl rfl (r_move rfl rfl rfl ?_)))))))
  refine r_pcall [_] rfl rfl rfl (c_integer_magnitude _ (by omega)) ?_
  refine r_pcall [_, _] rfl rfl rfl (c_integer_made _ _) ?_
  refine r_store rfl 0 0 [⟨some g0, 61, _, 2, true⟩] [_, _] rfl rfl rfl rfl ti61 rfl rfl rfl rfl rfl ?_
  refine run_nil (at_tn (at_ret ?_))
  refine at_end1 rfl (res_cell 0 rfl rfl ti61 (vs := [_, _]) rfl rfl (Nat.le_of_ble_eq_true rfl) rfl) (fun w hL => ⟨?_, hL.below⟩)
  exact congrArg (fun z => Ending.returned (I z)) (fromInt_T z hb0)
 ·
  refine at_skip (at_tn (at_seq (at_region (r_move rfl rfl rfl (r_cmpInt rfl rfl rfl rfl rfl (r_move rfl rfl rfl ?_))))))
  refine r_know 12 (.int .u64 (z.natAbs : Nat)) rfl (congrArg (Value.int .u64) (by have := of_decide_eq_false hb0; omega)) ?_
  refine r_pcall [_] rfl rfl rfl (c_integer_magnitude _ (by omega)) ?_
  refine r_pcall [_, _] rfl rfl rfl (c_integer_made _ _) ?_
  refine r_store rfl 0 0 [⟨some g0, 61, _, 2, true⟩] [_, _] rfl rfl rfl rfl ti61 rfl rfl rfl rfl rfl ?_
  refine run_nil (at_tn (at_ret ?_))
  refine at_end1 rfl (res_cell 0 rfl rfl ti61 (vs := [_, _]) rfl rfl (Nat.le_of_ble_eq_true rfl) rfl) (fun w hL => ⟨?_, hL.below⟩)
  exact congrArg (fun z => Ending.returned (I z)) (fromInt_F z hb0)
set_option maxRecDepth 20000 in
theorem c_integer_add (m n : Nat) (hm : nb m ≤ 67108864) (hn : nb n ≤ 67108864) : PCall Tryz.prog 104 #[.string (mag m), .string (mag n)] (.string (mag (m + n))) := by
 have hdm := dig_len_le hm
 have hdn := dig_len_le hn
 refine ⟨by kernel_rfl, fun w => ?_⟩
 refine calls_at (args := [.string (mag m), .string (mag n)]) Tryz.func104 rfl (Nat.le_of_ble_eq_true rfl) (LRel.nil w) ?_
 show At w ⟨84, [(0, .string (mag m)), (1, .string (mag n))], []⟩ _
 refine at_seq (at_region (r_assign rfl rfl rfl (run_nil (at_tn (at_seq (at_seq (at_region (r_move rfl rfl rfl (r_move rfl rfl rfl ?_)))))))))
 refine r_pcall [_, _] rfl rfl rfl (c_integer_words _ _) ?_
 refine r_move rfl rfl rfl ?_
 refine r_extract (vs := [_, _, _]) rfl rfl rfl rfl ?_
 refine r_extract (vs := [_, _, _]) rfl rfl rfl rfl ?_
 refine r_extract (vs := [_, _, _]) rfl rfl rfl rfl ?_
 refine r_assign rfl rfl rfl (r_assign rfl rfl rfl (r_assign rfl rfl rfl (run_nil (at_tn (at_seq (at_region (r_move rfl rfl rfl (run_nil (at_tn ?_)))))))))
 refine at_cond rfl (fun hb0 => ?_) (fun hb0 => ?_)
 ·
  obtain ⟨hw1, hw2, hw3, hw4⟩ := words_T hb0
  refine at_know 5 (.int .u64 (m : Nat)) rfl (by rw [if_pos hw3]) ?_
  refine at_know 6 (.int .u64 (n : Nat)) rfl (by rw [if_pos hw4]) ?_
  refine at_seq (at_region (r_move rfl rfl rfl (r_move rfl rfl rfl ?_)))
  refine r_add64 m n rfl rfl rfl rfl rfl ?_
  refine r_move rfl rfl rfl ?_
  refine r_extract (vs := [_, _]) rfl rfl rfl rfl ?_
  refine r_extract (vs := [_, _]) rfl rfl rfl rfl ?_
  refine r_assign rfl rfl rfl (r_assign rfl rfl rfl (run_nil (at_tn (at_seq (at_region (r_move rfl rfl rfl (r_cmpInt rfl rfl rfl rfl rfl (run_nil (at_tn ?_)))))))))
  refine at_cond rfl (fun hb1 => ?_) (fun hb1 => ?_)
  ·
   have hs : m + n < 18446744073709551616 := by have := eq_of_beq hb1; omega
   refine at_seq (at_region (r_move rfl rfl rfl ?_))
   refine r_pcall [_] rfl rfl rfl (c_integer_magnitude _ (by omega)) ?_
   refine r_assign rfl rfl rfl (run_nil (at_tn (at_ret (at_tr ?_))))
   refine at_end1 rfl (res_tmp rfl) (fun w hL => ⟨?_, hL.below⟩)
   rw [Nat.mod_eq_of_lt hs]
  ·
   refine at_skip (at_tn (at_seq (at_region (r_move rfl rfl rfl ?_))))
   refine r_scall [_] [] rfl rfl rfl (c_integer_digits m (by omega)) trivial rfl (.inr fun x b hb => by rw [List.mem_singleton.1 hb]) (fun g0 => ?_)
   refine r_move rfl rfl rfl ?_
   refine r_scall [_] [] rfl rfl rfl (c_integer_digits n (by omega)) trivial rfl (.inr fun x b hb => by rw [List.mem_singleton.1 hb]) (fun g1 => ?_)
   refine r_assign rfl rfl rfl (r_assign rfl rfl rfl (run_nil (at_tn (at_seq (at_seq (at_region (r_move rfl rfl rfl (r_lenS u161 rfl rfl rfl (r_move rfl rfl rfl (r_lenS u161 rfl rfl rfl (r_cmpInt rfl rfl rfl rfl rfl (run_nil (at_tn ?_)))))))))))))
   refine at_cond rfl (fun hb2 => ?_) (fun hb2 => ?_)
   ·
    have hle : (digs B32 m).length ≤ (digs B32 n).length := (by have := of_decide_eq_true hb2; omega)
    refine at_region (r_move rfl rfl rfl (r_move rfl rfl rfl (r_assign rfl rfl rfl (r_assign rfl rfl rfl (run_nil (at_tn (at_seq (at_region (r_move rfl rfl rfl (r_lenS u161 rfl rfl rfl ?_))))))))))
    refine r_arith (r := (((digs B32 n).length + 1 : Nat) : Int)) rfl rfl rfl rfl (congrArg some (wi (by omega) (by omega) (by omega))) ?_
    refine q_makeSlice (c := (digs B32 n).length + 1) (NV .u32 (List.replicate ((digs B32 n).length + 1) 0)) (fun g => [_, _, ⟨some g, 136, _, _, true⟩]) u161 el136 rfl rfl rfl rfl rfl rfl (by omega) (by rw [NV_replicate]) (fun _ => rfl) (fun g2 => ?_)
    refine r_assign rfl rfl rfl (run_nil (at_tn (at_seq (at_region (r_move rfl rfl rfl (r_move rfl rfl rfl ?_))))))
    refine q_copy 2 1 [_, _, ⟨some g2, 136, _, _, true⟩] (NV .u32 (row ((digs B32 n).length + 1) (addT n m 0))) u161 el136 rfl rfl rfl rfl rfl rfl rfl rfl (NV_length _ _) (by omega) (by rw [NV_length, List.length_replicate]; omega) (NV_one _ _) (addT_zero _ _) rfl ?_
    refine run_nil (at_tn (at_seq (at_region (r_assign rfl rfl rfl (run_nil (at_tn (at_seq (at_seq (at_region (r_move rfl rfl rfl (r_lenS u161 rfl rfl rfl (r_move rfl rfl rfl (run_nil (at_tn (at_block ?_)))))))))))))))
    refine enterL (nt := 84) (ι := {i : Nat // i ≤ (digs B32 n).length + 1}) (fun ⟨i, hi⟩ => [(10, slv (some g1) 0 (digs B32 n).length (digs B32 n).length), (11, slv (some g0) 0 (digs B32 m).length (digs B32 m).length), (12, slv (some g2) 0 ((digs B32 n).length + 1) ((digs B32 n).length + 1)), (13, .int .u64 (addC n m i : Nat)), (52, .int .i64 ((digs B32 n).length + 1 : Nat)), (53, .int .i64 (i : Nat))]) (fun ⟨i, hi⟩ => [⟨some g0, 136, NV .u32 (digs B32 m), (digs B32 m).length, true⟩, ⟨some g1, 136, NV .u32 (digs B32 n), (digs B32 n).length, true⟩, ⟨some g2, 136, NV .u32 (row ((digs B32 n).length + 1) (addT n m i)), (digs B32 n).length + 1, true⟩]) (fun ⟨i, hi⟩ => (digs B32 n).length + 1 - i) ⟨0, Nat.zero_le _⟩ ⟨rfl, rfl, rfl, (look_val rfl (by rw [addC_zero]; rfl)), rfl, rfl, trivial⟩ (Weak.refl _) ?_
    rintro ⟨i, hi⟩
    show At _ ⟨84, [(10, slv (some g1) 0 (digs B32 n).length (digs B32 n).length), (11, slv (some g0) 0 (digs B32 m).length (digs B32 m).length), (12, slv (some g2) 0 ((digs B32 n).length + 1) ((digs B32 n).length + 1)), (13, .int .u64 (addC n m i : Nat)), (52, .int .i64 ((digs B32 n).length + 1 : Nat)), (53, .int .i64 (i : Nat))], [⟨some g0, 136, NV .u32 (digs B32 m), (digs B32 m).length, true⟩, ⟨some g1, 136, NV .u32 (digs B32 n), (digs B32 n).length, true⟩, ⟨some g2, 136, NV .u32 (row ((digs B32 n).length + 1) (addT n m i)), (digs B32 n).length + 1, true⟩]⟩ _
    refine at_seq (at_region (r_cmpInt rfl rfl rfl rfl rfl (run_nil (at_tn (at_seq ?_)))))
    refine at_cond rfl (fun hb4 => ?_) (fun hb4 => ?_)
    ·
     have hlt : i < (digs B32 n).length + 1 := (by have := of_decide_eq_true hb4; omega)
     have hc1 := addC_le n m i
     have hx1 := B32_mod (n / B32 ^ i)
     have hy1 := B32_mod (m / B32 ^ i)
     have hs1 := addS_lt n m i
     refine at_skip (at_tn (at_seq (at_block (at_seq (at_region (r_move rfl rfl rfl (r_assign rfl rfl rfl (run_nil (at_tn (at_seq (at_region (r_move rfl rfl rfl (r_move rfl rfl rfl (r_move rfl rfl rfl ?_))))))))))))))
     refine r_indexAddr 2 (i) u161 ti136 rfl rfl rfl rfl rfl (by omega) (by omega) (NV_ne (by rw [row_length]; omega)) (by show 0 + Int.toNat _ * 1 = _; omega) ?_
     refine r_load1 2 (i) ti136 rfl rfl rfl rfl (NV_get ((row_get (by omega)).trans (by rw [addT_at]))) ?_
     refine r_conv (r := ((n / B32 ^ i % B32 : Nat) : Int)) u136 u116 rfl rfl rfl (c64 _ rfl (by omega)) ?_
     refine r_arith (r := ((addC n m i + n / B32 ^ i % B32 : Nat) : Int)) rfl rfl rfl rfl (congrArg some (c64 _ rfl (by omega))) ?_
     refine r_assign rfl rfl rfl (run_nil (at_tn (at_seq (at_seq (at_region (r_move rfl rfl rfl (r_move rfl rfl rfl (r_lenS u161 rfl rfl rfl (r_cmpInt rfl rfl rfl rfl rfl (run_nil (at_tn ?_)))))))))))
     refine at_cond rfl (fun hb5 => ?_) (fun hb5 => ?_)
     ·
      have hly : i < (digs B32 m).length := (by have := of_decide_eq_true hb5; omega)
      refine at_region (r_move rfl rfl rfl (r_move rfl rfl rfl (r_move rfl rfl rfl ?_)))
      refine r_indexAddr 0 (i) u161 ti136 rfl rfl rfl rfl rfl (by omega) (by omega) (NV_ne (by omega)) (by show 0 + Int.toNat _ * 1 = _; omega) ?_
      refine r_load1 0 (i) ti136 rfl rfl rfl rfl (NV_get (digs_get B32_two hly)) ?_
      refine r_conv (r := ((m / B32 ^ i % B32 : Nat) : Int)) u136 u116 rfl rfl rfl (c64 _ rfl (by omega)) ?_
      refine r_arith (r := ((addS n m i : Nat) : Int)) rfl rfl rfl rfl (congrArg some (c64 _ rfl (by omega))) ?_
      refine r_assign rfl rfl rfl (run_nil (at_tn (at_region (r_move rfl rfl rfl (r_move rfl rfl rfl (r_move rfl rfl rfl ?_))))))
      refine r_conv (r := ((addS n m i % 4294967296 : Nat) : Int)) u116 u136 rfl rfl rfl (c32 _ rfl) ?_
      refine r_move rfl rfl rfl ?_
      refine r_shift (r := ((addC n m (i + 1) : Nat) : Int)) rfl rfl rfl rfl (by omega) (congrArg some ((shr_u _ 32 rfl rfl (by omega)).trans (by rw [addS_carry]))) ?_
      refine r_indexAddr 2 (i) u161 ti136 rfl rfl rfl rfl rfl (by omega) (by omega) (NV_ne (by rw [row_length]; omega)) (by show 0 + Int.toNat _ * 1 = _; omega) ?_
      refine r_store1 rfl 2 (i) [_, _, ⟨some g2, 136, _, _, true⟩] (NV .u32 (row ((digs B32 n).length + 1) (addT n m (i + 1)))) ti136 rfl rfl rfl rfl rfl rfl rfl rfl (by rw [NV_length, row_length]; omega) (by rw [NV_set, row_set (fun j _ => addT_step _ _ i j)]) rfl ?_
      refine r_assign rfl rfl rfl (run_nil (at_bn (at_tn (at_region ?_))))
      refine r_arith (r := ((i + 1 : Nat) : Int)) rfl rfl rfl rfl (congrArg some (wi (by omega) (by omega) (by omega))) ?_
      refine r_move rfl rfl rfl (run_nil (at_tn ?_))
      exact nextL ⟨i + 1, hlt⟩ (by simp only []; omega) ⟨rfl, rfl, rfl, rfl, rfl, rfl, trivial⟩ (Weak.refl _)
     ·
      have hly : (digs B32 m).length ≤ i := (by have := of_decide_eq_false hb5; omega)
      refine at_know 13 (.int .u64 (addS n m i : Nat)) rfl (by rw [addS_eq, digs_above hly]; rfl) ?_
      refine at_skip (at_tn (at_region (r_move rfl rfl rfl (r_move rfl rfl rfl (r_move rfl rfl rfl ?_)))))
      refine r_conv (r := ((addS n m i % 4294967296 : Nat) : Int)) u116 u136 rfl rfl rfl (c32 _ rfl) ?_
      refine r_move rfl rfl rfl ?_
      refine r_shift (r := ((addC n m (i + 1) : Nat) : Int)) rfl rfl rfl rfl (by omega) (congrArg some ((shr_u _ 32 rfl rfl (by omega)).trans (by rw [addS_carry]))) ?_
      refine r_indexAddr 2 (i) u161 ti136 rfl rfl rfl rfl rfl (by omega) (by omega) (NV_ne (by rw [row_length]; omega)) (by show 0 + Int.toNat _ * 1 = _; omega) ?_
      refine r_store1 rfl 2 (i) [_, _, ⟨some g2, 136, _, _, true⟩] (NV .u32 (row ((digs B32 n).length + 1) (addT n m (i + 1)))) ti136 rfl rfl rfl rfl rfl rfl rfl rfl (by rw [NV_length, row_length]; omega) (by rw [NV_set, row_set (fun j _ => addT_step _ _ i j)]) rfl ?_
      refine r_assign rfl rfl rfl (run_nil (at_bn (at_tn (at_region ?_))))
      refine r_arith (r := ((i + 1 : Nat) : Int)) rfl rfl rfl rfl (congrArg some (wi (by omega) (by omega) (by omega))) ?_
      refine r_move rfl rfl rfl (run_nil (at_tn ?_))
      exact nextL ⟨i + 1, hlt⟩ (by simp only []; omega) ⟨rfl, rfl, rfl, rfl, rfl, rfl, trivial⟩ (Weak.refl _)
    ·
     have hge : i = (digs B32 n).length + 1 := (by have := of_decide_eq_false hb4; omega)
     subst hge
     refine at_exit (at_te (at_te (at_be (at_tn (at_seq (at_region (r_move rfl rfl rfl ?_)))))))
     refine r_scall0 [_] [2] rfl rfl rfl (c_nat_bytes (row ((digs B32 n).length + 1) (addT n m ((digs B32 n).length + 1))) (row_lt fun j => addT_lt _ _ _ j) (by rw [row_length]; omega) (row_length _ _) ⟨some g2, _, _, Nat.le_refl _⟩) ⟨⟨_, rfl, le_share⟩, trivial⟩ rfl ?_
     refine r_assign rfl rfl rfl (run_nil (at_tn (at_ret ?_)))
     refine at_end1 rfl (res_tmp rfl) (fun w hL => ⟨?_, hL.below⟩)
     rw [addT_end hle]; rw [Nat.add_comm]
   ·
    have hle : (digs B32 n).length ≤ (digs B32 m).length := (by have := of_decide_eq_false hb2; omega)
    refine at_skip (at_tn (at_seq (at_region (r_move rfl rfl rfl (r_lenS u161 rfl rfl rfl ?_)))))
    refine r_arith (r := (((digs B32 m).length + 1 : Nat) : Int)) rfl rfl rfl rfl (congrArg some (wi (by omega) (by omega) (by omega))) ?_
    refine q_makeSlice (c := (digs B32 m).length + 1) (NV .u32 (List.replicate ((digs B32 m).length + 1) 0)) (fun g => [_, _, ⟨some g, 136, _, _, true⟩]) u161 el136 rfl rfl rfl rfl rfl rfl (by omega) (by rw [NV_replicate]) (fun _ => rfl) (fun g2 => ?_)
    refine r_assign rfl rfl rfl (run_nil (at_tn (at_seq (at_region (r_move rfl rfl rfl (r_move rfl rfl rfl ?_))))))
    refine q_copy 2 0 [_, _, ⟨some g2, 136, _, _, true⟩] (NV .u32 (row ((digs B32 m).length + 1) (addT m n 0))) u161 el136 rfl rfl rfl rfl rfl rfl rfl rfl (NV_length _ _) (by omega) (by rw [NV_length, List.length_replicate]; omega) (NV_one _ _) (addT_zero _ _) rfl ?_
    refine run_nil (at_tn (at_seq (at_region (r_assign rfl rfl rfl (run_nil (at_tn (at_seq (at_seq (at_region (r_move rfl rfl rfl (r_lenS u161 rfl rfl rfl (r_move rfl rfl rfl (run_nil (at_tn (at_block ?_)))))))))))))))
    refine enterL (nt := 84) (ι := {i : Nat // i ≤ (digs B32 m).length + 1}) (fun ⟨i, hi⟩ => [(10, slv (some g0) 0 (digs B32 m).length (digs B32 m).length), (11, slv (some g1) 0 (digs B32 n).length (digs B32 n).length), (12, slv (some g2) 0 ((digs B32 m).length + 1) ((digs B32 m).length + 1)), (13, .int .u64 (addC m n i : Nat)), (52, .int .i64 ((digs B32 m).length + 1 : Nat)), (53, .int .i64 (i : Nat))]) (fun ⟨i, hi⟩ => [⟨some g0, 136, NV .u32 (digs B32 m), (digs B32 m).length, true⟩, ⟨some g1, 136, NV .u32 (digs B32 n), (digs B32 n).length, true⟩, ⟨some g2, 136, NV .u32 (row ((digs B32 m).length + 1) (addT m n i)), (digs B32 m).length + 1, true⟩]) (fun ⟨i, hi⟩ => (digs B32 m).length + 1 - i) ⟨0, Nat.zero_le _⟩ ⟨rfl, rfl, rfl, (look_val rfl (by rw [addC_zero]; rfl)), rfl, rfl, trivial⟩ (Weak.refl _) ?_
    rintro ⟨i, hi⟩
    show At _ ⟨84, [(10, slv (some g0) 0 (digs B32 m).length (digs B32 m).length), (11, slv (some g1) 0 (digs B32 n).length (digs B32 n).length), (12, slv (some g2) 0 ((digs B32 m).length + 1) ((digs B32 m).length + 1)), (13, .int .u64 (addC m n i : Nat)), (52, .int .i64 ((digs B32 m).length + 1 : Nat)), (53, .int .i64 (i : Nat))], [⟨some g0, 136, NV .u32 (digs B32 m), (digs B32 m).length, true⟩, ⟨some g1, 136, NV .u32 (digs B32 n), (digs B32 n).length, true⟩, ⟨some g2, 136, NV .u32 (row ((digs B32 m).length + 1) (addT m n i)), (digs B32 m).length + 1, true⟩]⟩ _
    refine at_seq (at_region (r_cmpInt rfl rfl rfl rfl rfl (run_nil (at_tn (at_seq ?_)))))
    refine at_cond rfl (fun hb4 => ?_) (fun hb4 => ?_)
    ·
     have hlt : i < (digs B32 m).length + 1 := (by have := of_decide_eq_true hb4; omega)
     have hc1 := addC_le m n i
     have hx1 := B32_mod (m / B32 ^ i)
     have hy1 := B32_mod (n / B32 ^ i)
     have hs1 := addS_lt m n i
     refine at_skip (at_tn (at_seq (at_block (at_seq (at_region (r_move rfl rfl rfl (r_assign rfl rfl rfl (run_nil (at_tn (at_seq (at_region (r_move rfl rfl rfl (r_move rfl rfl rfl (r_move rfl rfl rfl ?_))))))))))))))
     refine r_indexAddr 2 (i) u161 ti136 rfl rfl rfl rfl rfl (by omega) (by omega) (NV_ne (by rw [row_length]; omega)) (by show 0 + Int.toNat _ * 1 = _; omega) ?_
     refine r_load1 2 (i) ti136 rfl rfl rfl rfl (NV_get ((row_get (by omega)).trans (by rw [addT_at]))) ?_
     refine r_conv (r := ((m / B32 ^ i % B32 : Nat) : Int)) u136 u116 rfl rfl rfl (c64 _ rfl (by omega)) ?_
     refine r_arith (r := ((addC m n i + m / B32 ^ i % B32 : Nat) : Int)) rfl rfl rfl rfl (congrArg some (c64 _ rfl (by omega))) ?_
     refine r_assign rfl rfl rfl (run_nil (at_tn (at_seq (at_seq (at_region (r_move rfl rfl rfl (r_move rfl rfl rfl (r_lenS u161 rfl rfl rfl (r_cmpInt rfl rfl rfl rfl rfl (run_nil (at_tn ?_)))))))))))
     refine at_cond rfl (fun hb5 => ?_) (fun hb5 => ?_)
     ·
      have hly : i < (digs B32 n).length := (by have := of_decide_eq_true hb5; omega)
      refine at_region (r_move rfl rfl rfl (r_move rfl rfl rfl (r_move rfl rfl rfl ?_)))
      refine r_indexAddr 1 (i) u161 ti136 rfl rfl rfl rfl rfl (by omega) (by omega) (NV_ne (by omega)) (by show 0 + Int.toNat _ * 1 = _; omega) ?_
      refine r_load1 1 (i) ti136 rfl rfl rfl rfl (NV_get (digs_get B32_two hly)) ?_
      refine r_conv (r := ((n / B32 ^ i % B32 : Nat) : Int)) u136 u116 rfl rfl rfl (c64 _ rfl (by omega)) ?_
      refine r_arith (r := ((addS m n i : Nat) : Int)) rfl rfl rfl rfl (congrArg some (c64 _ rfl (by omega))) ?_
      refine r_assign rfl rfl rfl (run_nil (at_tn (at_region (r_move rfl rfl rfl (r_move rfl rfl rfl (r_move rfl rfl rfl ?_))))))
      refine r_conv (r := ((addS m n i % 4294967296 : Nat) : Int)) u116 u136 rfl rfl rfl (c32 _ rfl) ?_
      refine r_move rfl rfl rfl ?_
      refine r_shift (r := ((addC m n (i + 1) : Nat) : Int)) rfl rfl rfl rfl (by omega) (congrArg some ((shr_u _ 32 rfl rfl (by omega)).trans (by rw [addS_carry]))) ?_
      refine r_indexAddr 2 (i) u161 ti136 rfl rfl rfl rfl rfl (by omega) (by omega) (NV_ne (by rw [row_length]; omega)) (by show 0 + Int.toNat _ * 1 = _; omega) ?_
      refine r_store1 rfl 2 (i) [_, _, ⟨some g2, 136, _, _, true⟩] (NV .u32 (row ((digs B32 m).length + 1) (addT m n (i + 1)))) ti136 rfl rfl rfl rfl rfl rfl rfl rfl (by rw [NV_length, row_length]; omega) (by rw [NV_set, row_set (fun j _ => addT_step _ _ i j)]) rfl ?_
      refine r_assign rfl rfl rfl (run_nil (at_bn (at_tn (at_region ?_))))
      refine r_arith (r := ((i + 1 : Nat) : Int)) rfl rfl rfl rfl (congrArg some (wi (by omega) (by omega) (by omega))) ?_
      refine r_move rfl rfl rfl (run_nil (at_tn ?_))
      exact nextL ⟨i + 1, hlt⟩ (by simp only []; omega) ⟨rfl, rfl, rfl, rfl, rfl, rfl, trivial⟩ (Weak.refl _)
     ·
      have hly : (digs B32 n).length ≤ i := (by have := of_decide_eq_false hb5; omega)
      refine at_know 13 (.int .u64 (addS m n i : Nat)) rfl (by rw [addS_eq, digs_above hly]; rfl) ?_
      refine at_skip (at_tn (at_region (r_move rfl rfl rfl (r_move rfl rfl rfl (r_move rfl rfl rfl ?_)))))
      refine r_conv (r := ((addS m n i % 4294967296 : Nat) : Int)) u116 u136 rfl rfl rfl (c32 _ rfl) ?_
      refine r_move rfl rfl rfl ?_
      refine r_shift (r := ((addC m n (i + 1) : Nat) : Int)) rfl rfl rfl rfl (by omega) (congrArg some ((shr_u _ 32 rfl rfl (by omega)).trans (by rw [addS_carry]))) ?_
      refine r_indexAddr 2 (i) u161 ti136 rfl rfl rfl rfl rfl (by omega) (by omega) (NV_ne (by rw [row_length]; omega)) (by show 0 + Int.toNat _ * 1 = _; omega) ?_
      refine r_store1 rfl 2 (i) [_, _, ⟨some g2, 136, _, _, true⟩] (NV .u32 (row ((digs B32 m).length + 1) (addT m n (i + 1)))) ti136 rfl rfl rfl rfl rfl rfl rfl rfl (by rw [NV_length, row_length]; omega) (by rw [NV_set, row_set (fun j _ => addT_step _ _ i j)]) rfl ?_
      refine r_assign rfl rfl rfl (run_nil (at_bn (at_tn (at_region ?_))))
      refine r_arith (r := ((i + 1 : Nat) : Int)) rfl rfl rfl rfl (congrArg some (wi (by omega) (by omega) (by omega))) ?_
      refine r_move rfl rfl rfl (run_nil (at_tn ?_))
      exact nextL ⟨i + 1, hlt⟩ (by simp only []; omega) ⟨rfl, rfl, rfl, rfl, rfl, rfl, trivial⟩ (Weak.refl _)
    ·
     have hge : i = (digs B32 m).length + 1 := (by have := of_decide_eq_false hb4; omega)
     subst hge
     refine at_exit (at_te (at_te (at_be (at_tn (at_seq (at_region (r_move rfl rfl rfl ?_)))))))
     refine r_scall0 [_] [2] rfl rfl rfl (c_nat_bytes (row ((digs B32 m).length + 1) (addT m n ((digs B32 m).length + 1))) (row_lt fun j => addT_lt _ _ _ j) (by rw [row_length]; omega) (row_length _ _) ⟨some g2, _, _, Nat.le_refl _⟩) ⟨⟨_, rfl, le_share⟩, trivial⟩ rfl ?_
     refine r_assign rfl rfl rfl (run_nil (at_tn (at_ret ?_)))
     refine at_end1 rfl (res_tmp rfl) (fun w hL => ⟨?_, hL.below⟩)
     rw [addT_end hle]
 ·
  refine at_skip (at_tn (at_seq (at_region (r_move rfl rfl rfl ?_))))
  refine r_scall [_] [] rfl rfl rfl (c_integer_digits m (by omega)) trivial rfl (.inr fun x b hb => by rw [List.mem_singleton.1 hb]) (fun g0 => ?_)
  refine r_move rfl rfl rfl ?_
  refine r_scall [_] [] rfl rfl rfl (c_integer_digits n (by omega)) trivial rfl (.inr fun x b hb => by rw [List.mem_singleton.1 hb]) (fun g1 => ?_)
  refine r_assign rfl rfl rfl (r_assign rfl rfl rfl (run_nil (at_tn (at_seq (at_seq (at_region (r_move rfl rfl rfl (r_lenS u161 rfl rfl rfl (r_move rfl rfl rfl (r_lenS u161 rfl rfl rfl (r_cmpInt rfl rfl rfl rfl rfl (run_nil (at_tn ?_)))))))))))))
  refine at_cond rfl (fun hb1 => ?_) (fun hb1 => ?_)
  ·
   have hle : (digs B32 m).length ≤ (digs B32 n).length := (by have := of_decide_eq_true hb1; omega)
   refine at_region (r_move rfl rfl rfl (r_move rfl rfl rfl (r_assign rfl rfl rfl (r_assign rfl rfl rfl (run_nil (at_tn (at_seq (at_region (r_move rfl rfl rfl (r_lenS u161 rfl rfl rfl ?_))))))))))
   refine r_arith (r := (((digs B32 n).length + 1 : Nat) : Int)) rfl rfl rfl rfl (congrArg some (wi (by omega) (by omega) (by omega))) ?_
   refine q_makeSlice (c := (digs B32 n).length + 1) (NV .u32 (List.replicate ((digs B32 n).length + 1) 0)) (fun g => [_, _, ⟨some g, 136, _, _, true⟩]) u161 el136 rfl rfl rfl rfl rfl rfl (by omega) (by rw [NV_replicate]) (fun _ => rfl) (fun g2 => ?_)
   refine r_assign rfl rfl rfl (run_nil (at_tn (at_seq (at_region (r_move rfl rfl rfl (r_move rfl rfl rfl ?_))))))
   refine q_copy 2 1 [_, _, ⟨some g2, 136, _, _, true⟩] (NV .u32 (row ((digs B32 n).length + 1) (addT n m 0))) u161 el136 rfl rfl rfl rfl rfl rfl rfl rfl (NV_length _ _) (by omega) (by rw [NV_length, List.length_replicate]; omega) (NV_one _ _) (addT_zero _ _) rfl ?_
   refine run_nil (at_tn (at_seq (at_region (r_assign rfl rfl rfl (run_nil (at_tn (at_seq (at_seq (at_region (r_move rfl rfl rfl (r_lenS u161 rfl rfl rfl (r_move rfl rfl rfl (run_nil (at_tn (at_block ?_)))))))))))))))
   refine enterL (nt := 84) (ι := {i : Nat // i ≤ (digs B32 n).length + 1}) (fun ⟨i, hi⟩ => [(10, slv (some g1) 0 (digs B32 n).length (digs B32 n).length), (11, slv (some g0) 0 (digs B32 m).length (digs B32 m).length), (12, slv (some g2) 0 ((digs B32 n).length + 1) ((digs B32 n).length + 1)), (13, .int .u64 (addC n m i : Nat)), (52, .int .i64 ((digs B32 n).length + 1 : Nat)), (53, .int .i64 (i : Nat))]) (fun ⟨i, hi⟩ => [⟨some g0, 136, NV .u32 (digs B32 m), (digs B32 m).length, true⟩, ⟨some g1, 136, NV .u32 (digs B32 n), (digs B32 n).length, true⟩, ⟨some g2, 136, NV .u32 (row ((digs B32 n).length + 1) (addT n m i)), (digs B32 n).length + 1, true⟩]) (fun ⟨i, hi⟩ => (digs B32 n).length + 1 - i) ⟨0, Nat.zero_le _⟩ ⟨rfl, rfl, rfl, (look_val rfl (by rw [addC_zero]; rfl)), rfl, rfl, trivial⟩ (Weak.refl _) ?_
   rintro ⟨i, hi⟩
   show At _ ⟨84, [(10, slv (some g1) 0 (digs B32 n).length (digs B32 n).length), (11, slv (some g0) 0 (digs B32 m).length (digs B32 m).length), (12, slv (some g2) 0 ((digs B32 n).length + 1) ((digs B32 n).length + 1)), (13, .int .u64 (addC n m i : Nat)), (52, .int .i64 ((digs B32 n).length + 1 : Nat)), (53, .int .i64 (i : Nat))], [⟨some g0, 136, NV .u32 (digs B32 m), (digs B32 m).length, true⟩, ⟨some g1, 136, NV .u32 (digs B32 n), (digs B32 n).length, true⟩, ⟨some g2, 136, NV .u32 (row ((digs B32 n).length + 1) (addT n m i)), (digs B32 n).length + 1, true⟩]⟩ _
   refine at_seq (at_region (r_cmpInt rfl rfl rfl rfl rfl (run_nil (at_tn (at_seq ?_)))))
   refine at_cond rfl (fun hb3 => ?_) (fun hb3 => ?_)
   ·
    have hlt : i < (digs B32 n).length + 1 := (by have := of_decide_eq_true hb3; omega)
    have hc1 := addC_le n m i
    have hx1 := B32_mod (n / B32 ^ i)
    have hy1 := B32_mod (m / B32 ^ i)
    have hs1 := addS_lt n m i
    refine at_skip (at_tn (at_seq (at_block (at_seq (at_region (r_move rfl rfl rfl (r_assign rfl rfl rfl (run_nil (at_tn (at_seq (at_region (r_move rfl rfl rfl (r_move rfl rfl rfl (r_move rfl rfl rfl ?_))))))))))))))
    refine r_indexAddr 2 (i) u161 ti136 rfl rfl rfl rfl rfl (by omega) (by omega) (NV_ne (by rw [row_length]; omega)) (by show 0 + Int.toNat _ * 1 = _; omega) ?_
    refine r_load1 2 (i) ti136 rfl rfl rfl rfl (NV_get ((row_get (by omega)).trans (by rw [addT_at]))) ?_
    refine r_conv (r := ((n / B32 ^ i % B32 : Nat) : Int)) u136 u116 rfl rfl rfl (c64 _ rfl (by omega)) ?_
    refine r_arith (r := ((addC n m i + n / B32 ^ i % B32 : Nat) : Int)) rfl rfl rfl rfl (congrArg some (c64 _ rfl (by omega))) ?_
    refine r_assign rfl rfl rfl (run_nil (at_tn (at_seq (at_seq (at_region (r_move rfl rfl rfl (r_move rfl rfl rfl (r_lenS u161 rfl rfl rfl (r_cmpInt rfl rfl rfl rfl rfl (run_nil (at_tn ?_)))))))))))
    refine at_cond rfl (fun hb4 => ?_) (fun hb4 => ?_)
    ·
     have hly : i < (digs B32 m).length := (by have := of_decide_eq_true hb4; omega)
     refine at_region (r_move rfl rfl rfl (r_move rfl rfl rfl (r_move rfl rfl rfl ?_)))
     refine r_indexAddr 0 (i) u161 ti136 rfl rfl rfl rfl rfl (by omega) (by omega) (NV_ne (by omega)) (by show 0 + Int.toNat _ * 1 = _; omega) ?_
     refine r_load1 0 (i) ti136 rfl rfl rfl rfl (NV_get (digs_get B32_two hly)) ?_
     refine r_conv (r := ((m / B32 ^ i % B32 : Nat) : Int)) u136 u116 rfl rfl rfl (c64 _ rfl (by omega)) ?_
     refine r_arith (r := ((addS n m i : Nat) : Int)) rfl rfl rfl rfl (congrArg some (c64 _ rfl (by omega))) ?_
     refine r_assign rfl rfl rfl (run_nil (at_tn (at_region (r_move rfl rfl rfl (r_move rfl rfl rfl (r_move rfl rfl rfl ?_))))))
     refine r_conv (r := ((addS n m i % 4294967296 : Nat) : Int)) u116 u136 rfl rfl rfl (c32 _ rfl) ?_
     refine r_move rfl rfl rfl ?_
     refine r_shift (r := ((addC n m (i + 1) : Nat) : Int)) rfl rfl rfl rfl (by omega) (congrArg some ((shr_u _ 32 rfl rfl (by omega)).trans (by rw [addS_carry]))) ?_
     refine r_indexAddr 2 (i) u161 ti136 rfl rfl rfl rfl rfl (by omega) (by omega) (NV_ne (by rw [row_length]; omega)) (by show 0 + Int.toNat _ * 1 = _; omega) ?_
     refine r_store1 rfl 2 (i) [_, _, ⟨some g2, 136, _, _, true⟩] (NV .u32 (row ((digs B32 n).length + 1) (addT n m (i + 1)))) ti136 rfl rfl rfl rfl rfl rfl rfl rfl (by rw [NV_length, row_length]; omega) (by rw [NV_set, row_set (fun j _ => addT_step _ _ i j)]) rfl ?_
     refine r_assign rfl rfl rfl (run_nil (at_bn (at_tn (at_region ?_))))
     refine r_arith (r := ((i + 1 : Nat) : Int)) rfl rfl rfl rfl (congrArg some (wi (by omega) (by omega) (by omega))) ?_
     refine r_move rfl rfl rfl (run_nil (at_tn ?_))
     exact nextL ⟨i + 1, hlt⟩ (by simp only []; omega) ⟨rfl, rfl, rfl, rfl, rfl, rfl, trivial⟩ (Weak.refl _)
    ·
     have hly : (digs B32 m).length ≤ i := (by have := of_decide_eq_false hb4; omega)
     refine at_know 13 (.int .u64 (addS n m i : Nat)) rfl (by rw [addS_eq, digs_above hly]; rfl) ?_
     refine at_skip (at_tn (at_region (r_move rfl rfl rfl (r_move rfl rfl rfl (r_move rfl rfl rfl ?_)))))
     refine r_conv (r := ((addS n m i % 4294967296 : Nat) : Int)) u116 u136 rfl rfl rfl (c32 _ rfl) ?_
     refine r_move rfl rfl rfl ?_
     refine r_shift (r := ((addC n m (i + 1) : Nat) : Int)) rfl rfl rfl rfl (by omega) (congrArg some ((shr_u _ 32 rfl rfl (by omega)).trans (by rw [addS_carry]))) ?_
     refine r_indexAddr 2 (i) u161 ti136 rfl rfl rfl rfl rfl (by omega) (by omega) (NV_ne (by rw [row_length]; omega)) (by show 0 + Int.toNat _ * 1 = _; omega) ?_
     refine r_store1 rfl 2 (i) [_, _, ⟨some g2, 136, _, _, true⟩] (NV .u32 (row ((digs B32 n).length + 1) (addT n m (i + 1)))) ti136 rfl rfl rfl rfl rfl rfl rfl rfl (by rw [NV_length, row_length]; omega) (by rw [NV_set, row_set (fun j _ => addT_step _ _ i j)]) rfl ?_
     refine r_assign rfl rfl rfl (run_nil (at_bn (at_tn (at_region ?_))))
     refine r_arith (r := ((i + 1 : Nat) : Int)) rfl rfl rfl rfl (congrArg some (wi (by omega) (by omega) (by omega))) ?_
     refine r_move rfl rfl rfl (run_nil (at_tn ?_))
     exact nextL ⟨i + 1, hlt⟩ (by simp only []; omega) ⟨rfl, rfl, rfl, rfl, rfl, rfl, trivial⟩ (Weak.refl _)
   ·
    have hge : i = (digs B32 n).length + 1 := (by have := of_decide_eq_false hb3; omega)
    subst hge
    refine at_exit (at_te (at_te (at_be (at_tn (at_seq (at_region (r_move rfl rfl rfl ?_)))))))
    refine r_scall0 [_] [2] rfl rfl rfl (c_nat_bytes (row ((digs B32 n).length + 1) (addT n m ((digs B32 n).length + 1))) (row_lt fun j => addT_lt _ _ _ j) (by rw [row_length]; omega) (row_length _ _) ⟨some g2, _, _, Nat.le_refl _⟩) ⟨⟨_, rfl, le_share⟩, trivial⟩ rfl ?_
    refine r_assign rfl rfl rfl (run_nil (at_tn (at_ret ?_)))
    refine at_end1 rfl (res_tmp rfl) (fun w hL => ⟨?_, hL.below⟩)
    rw [addT_end hle]; rw [Nat.add_comm]
  ·
   have hle : (digs B32 n).length ≤ (digs B32 m).length := (by have := of_decide_eq_false hb1; omega)
   refine at_skip (at_tn (at_seq (at_region (r_move rfl rfl rfl (r_lenS u161 rfl rfl rfl ?_)))))
   refine r_arith (r := (((digs B32 m).length + 1 : Nat) : Int)) rfl rfl rfl rfl (congrArg some (wi (by omega) (by omega) (by omega))) ?_
   refine q_makeSlice (c := (digs B32 m).length + 1) (NV .u32 (List.replicate ((digs B32 m).length + 1) 0)) (fun g => [_, _, ⟨some g, 136, _, _, true⟩]) u161 el136 rfl rfl rfl rfl rfl rfl (by omega) (by rw [NV_replicate]) (fun _ => rfl) (fun g2 => ?_)
   refine r_assign rfl rfl rfl (run_nil (at_tn (at_seq (at_region (r_move rfl rfl rfl (r_move rfl rfl rfl ?_))))))
   refine q_copy 2 0 [_, _, ⟨some g2, 136, _, _, true⟩] (NV .u32 (row ((digs B32 m).length + 1) (addT m n 0))) u161 el136 rfl rfl rfl rfl rfl rfl rfl rfl (NV_length _ _) (by omega) (by rw [NV_length, List.length_replicate]; omega) (NV_one _ _) (addT_zero _ _) rfl ?_
   refine run_nil (at_tn (at_seq (at_region (r_assign rfl rfl rfl (run_nil (at_tn (at_seq (at_seq (at_region (r_move rfl rfl rfl (r_lenS u161 rfl rfl rfl (r_move rfl rfl rfl (run_nil (at_tn (at_block ?_)))))))))))))))
   refine enterL (nt := 84) (ι := {i : Nat // i ≤ (digs B32 m).length + 1}) (fun ⟨i, hi⟩ => [(10, slv (some g0) 0 (digs B32 m).length (digs B32 m).length), (11, slv (some g1) 0 (digs B32 n).length (digs B32 n).length), (12, slv (some g2) 0 ((digs B32 m).length + 1) ((digs B32 m).length + 1)), (13, .int .u64 (addC m n i : Nat)), (52, .int .i64 ((digs B32 m).length + 1 : Nat)), (53, .int .i64 (i : Nat))]) (fun ⟨i, hi⟩ => [⟨some g0, 136, NV .u32 (digs B32 m), (digs B32 m).length, true⟩, ⟨some g1, 136, NV .u32 (digs B32 n), (digs B32 n).length, true⟩, ⟨some g2, 136, NV .u32 (row ((digs B32 m).length + 1) (addT m n i)), (digs B32 m).length + 1, true⟩]) (fun ⟨i, hi⟩ => (digs B32 m).length + 1 - i) ⟨0, Nat.zero_le _⟩ ⟨rfl, rfl, rfl, (look_val rfl (by rw [addC_zero]; rfl)), rfl, rfl, trivial⟩ (Weak.refl _) ?_
   rintro ⟨i, hi⟩
   show At _ ⟨84, [(10, slv (some g0) 0 (digs B32 m).length (digs B32 m).length), (11, slv (some g1) 0 (digs B32 n).length (digs B32 n).length), (12, slv (some g2) 0 ((digs B32 m).length + 1) ((digs B32 m).length + 1)), (13, .int .u64 (addC m n i : Nat)), (52, .int .i64 ((digs B32 m).length + 1 : Nat)), (53, .int .i64 (i : Nat))], [⟨some g0, 136, NV .u32 (digs B32 m), (digs B32 m).length, true⟩, ⟨some g1, 136, NV .u32 (digs B32 n), (digs B32 n).length, true⟩, ⟨some g2, 136, NV .u32 (row ((digs B32 m).length + 1) (addT m n i)), (digs B32 m).length + 1, true⟩]⟩ _
   refine at_seq (at_region (r_cmpInt rfl rfl rfl rfl rfl (run_nil (at_tn (at_seq ?_)))))
   refine at_cond rfl (fun hb3 => ?_) (fun hb3 => ?_)
   ·
    have hlt : i < (digs B32 m).length + 1 := (by have := of_decide_eq_true hb3; omega)
    have hc1 := addC_le m n i
    have hx1 := B32_mod (m / B32 ^ i)
    have hy1 := B32_mod (n / B32 ^ i)
    have hs1 := addS_lt m n i
    refine at_skip (at_tn (at_seq (at_block (at_seq (at_region (r_move rfl rfl rfl (r_assign rfl rfl rfl (run_nil (at_tn (at_seq (at_region (r_move rfl rfl rfl (r_move rfl rfl rfl (r_move rfl rfl rfl ?_))))))))))))))
    refine r_indexAddr 2 (i) u161 ti136 rfl rfl rfl rfl rfl (by omega) (by omega) (NV_ne (by rw [row_length]; omega)) (by show 0 + Int.toNat _ * 1 = _; omega) ?_
    refine r_load1 2 (i) ti136 rfl rfl rfl rfl (NV_get ((row_get (by omega)).trans (by rw [addT_at]))) ?_
    refine r_conv (r := ((m / B32 ^ i % B32 : Nat) : Int)) u136 u116 rfl rfl rfl (c64 _ rfl (by omega)) ?_
    refine r_arith (r := ((addC m n i + m / B32 ^ i % B32 : Nat) : Int)) rfl rfl rfl rfl (congrArg some (c64 _ rfl (by omega))) ?_
    refine r_assign rfl rfl rfl (run_nil (at_tn (at_seq (at_seq (at_region (r_move rfl rfl rfl (r_move rfl rfl rfl (r_lenS u161 rfl rfl rfl (r_cmpInt rfl rfl rfl rfl rfl (run_nil (at_tn ?_)))))))))))
    refine at_cond rfl (fun hb4 => ?_) (fun hb4 => ?_)
    ·
     have hly : i < (digs B32 n).length := (by have := of_decide_eq_true hb4; omega)
     refine at_region (r_move rfl rfl rfl (r_move rfl rfl rfl (r_move rfl rfl rfl ?_)))
     refine r_indexAddr 1 (i) u161 ti136 rfl rfl rfl rfl rfl (by omega) (by omega) (NV_ne (by omega)) (by show 0 + Int.toNat _ * 1 = _; omega) ?_
     refine r_load1 1 (i) ti136 rfl rfl rfl rfl (NV_get (digs_get B32_two hly)) ?_
     refine r_conv (r := ((n / B32 ^ i % B32 : Nat) : Int)) u136 u116 rfl rfl rfl (c64 _ rfl (by omega)) ?_
     refine r_arith (r := ((addS m n i : Nat) : Int)) rfl rfl rfl rfl (congrArg some (c64 _ rfl (by omega))) ?_
     refine r_assign rfl rfl rfl (run_nil (at_tn (at_region (r_move rfl rfl rfl (r_move rfl rfl rfl (r_move rfl rfl rfl ?_))))))
     refine r_conv (r := ((addS m n i % 4294967296 : Nat) : Int)) u116 u136 rfl rfl rfl (c32 _ rfl) ?_
     refine r_move rfl rfl rfl ?_
     refine r_shift (r := ((addC m n (i + 1) : Nat) : Int)) rfl rfl rfl rfl (by omega) (congrArg some ((shr_u _ 32 rfl rfl (by omega)).trans (by rw [addS_carry]))) ?_
     refine r_indexAddr 2 (i) u161 ti136 rfl rfl rfl rfl rfl (by omega) (by omega) (NV_ne (by rw [row_length]; omega)) (by show 0 + Int.toNat _ * 1 = _; omega) ?_
     refine r_store1 rfl 2 (i) [_, _, ⟨some g2, 136, _, _, true⟩] (NV .u32 (row ((digs B32 m).length + 1) (addT m n (i + 1)))) ti136 rfl rfl rfl rfl rfl rfl rfl rfl (by rw [NV_length, row_length]; omega) (by rw [NV_set, row_set (fun j _ => addT_step _ _ i j)]) rfl ?_
     refine r_assign rfl rfl rfl (run_nil (at_bn (at_tn (at_region ?_))))
     refine r_arith (r := ((i + 1 : Nat) : Int)) rfl rfl rfl rfl (congrArg some (wi (by omega) (by omega) (by omega))) ?_
     refine r_move rfl rfl rfl (run_nil (at_tn ?_))
     exact nextL ⟨i + 1, hlt⟩ (by simp only []; omega) ⟨rfl, rfl, rfl, rfl, rfl, rfl, trivial⟩ (Weak.refl _)
    ·
     have hly : (digs B32 n).length ≤ i := (by have := of_decide_eq_false hb4; omega)
     refine at_know 13 (.int .u64 (addS m n i : Nat)) rfl (by rw [addS_eq, digs_above hly]; rfl) ?_
     refine at_skip (at_tn (at_region (r_move rfl rfl rfl (r_move rfl rfl rfl (r_move rfl rfl rfl ?_)))))
     refine r_conv (r := ((addS m n i % 4294967296 : Nat) : Int)) u116 u136 rfl rfl rfl (c32 _ rfl) ?_
     refine r_move rfl rfl rfl ?_
     refine r_shift (r := ((addC m n (i + 1) : Nat) : Int)) rfl rfl rfl rfl (by omega) (congrArg some ((shr_u _ 32 rfl rfl (by omega)).trans (by rw [addS_carry]))) ?_
     refine r_indexAddr 2 (i) u161 ti136 rfl rfl rfl rfl rfl (by omega) (by omega) (NV_ne (by rw [row_length]; omega)) (by show 0 + Int.toNat _ * 1 = _; omega) ?_
     refine r_store1 rfl 2 (i) [_, _, ⟨some g2, 136, _, _, true⟩] (NV .u32 (row ((digs B32 m).length + 1) (addT m n (i + 1)))) ti136 rfl rfl rfl rfl rfl rfl rfl rfl (by rw [NV_length, row_length]; omega) (by rw [NV_set, row_set (fun j _ => addT_step _ _ i j)]) rfl ?_
     refine r_assign rfl rfl rfl (run_nil (at_bn (at_tn (at_region ?_))))
     refine r_arith (r := ((i + 1 : Nat) : Int)) rfl rfl rfl rfl (congrArg some (wi (by omega) (by omega) (by omega))) ?_
     refine r_move rfl rfl rfl (run_nil (at_tn ?_))
     exact nextL ⟨i + 1, hlt⟩ (by simp only []; omega) ⟨rfl, rfl, rfl, rfl, rfl, rfl, trivial⟩ (Weak.refl _)
   ·
    have hge : i = (digs B32 m).length + 1 := (by have := of_decide_eq_false hb3; omega)
    subst hge
    refine at_exit (at_te (at_te (at_be (at_tn (at_seq (at_region (r_move rfl rfl rfl ?_)))))))
    refine r_scall0 [_] [2] rfl rfl rfl (c_nat_bytes (row ((digs B32 m).length + 1) (addT m n ((digs B32 m).length + 1))) (row_lt fun j => addT_lt _ _ _ j) (by rw [row_length]; omega) (row_length _ _) ⟨some g2, _, _, Nat.le_refl _⟩) ⟨⟨_, rfl, le_share⟩, trivial⟩ rfl ?_
    refine r_assign rfl rfl rfl (run_nil (at_tn (at_ret ?_)))
    refine at_end1 rfl (res_tmp rfl) (fun w hL => ⟨?_, hL.below⟩)
    rw [addT_end hle]
end Go.Proofs.YtncogghlhlnmaaaGreatDoor
set_option linter.unusedVariables false
namespace Go.Proofs.YtncogghlhlnmaaaGreatDoor
open Go Go.RowKit Go.Via
set_option maxRecDepth 20000 in
theorem c_integer_sub (m n : Nat) (hm : nb m ≤ 67108864) (h : n ≤ m) : PCall Tryz.prog 106 #[.string (mag m), .string (mag n)] (.string (mag (m - n))) := by
 have hdm := dig_len_le hm
 have hn : nb n ≤ 67108864 := Nat.le_trans (nb_mono h) hm
 have hdn := dig_len_le hn
 have hdl : (digs B32 n).length ≤ (digs B32 m).length := digs_length_mono B32_two h
 refine ⟨by kernel_rfl, fun w => ?_⟩
 refine calls_at (args := [.string (mag m), .string (mag n)]) Tryz.func106 rfl (Nat.le_of_ble_eq_true rfl) (LRel.nil w) ?_
 show At w ⟨71, [(0, .string (mag m)), (1, .string (mag n))], []⟩ _
 refine at_seq (at_region (r_assign rfl rfl rfl (run_nil (at_tn (at_seq (at_seq (at_region (r_move rfl rfl rfl (r_move rfl rfl rfl ?_)))))))))
 refine r_pcall [_, _] rfl rfl rfl (c_integer_words _ _) ?_
 refine r_move rfl rfl rfl ?_
 refine r_extract (vs := [_, _, _]) rfl rfl rfl rfl ?_
 refine r_extract (vs := [_, _, _]) rfl rfl rfl rfl ?_
 refine r_extract (vs := [_, _, _]) rfl rfl rfl rfl ?_
 refine r_assign rfl rfl rfl (r_assign rfl rfl rfl (r_assign rfl rfl rfl (run_nil (at_tn (at_seq (at_region (r_move rfl rfl rfl (run_nil (at_tn ?_)))))))))
 refine at_cond rfl (fun hb0 => ?_) (fun hb0 => ?_)
 ·
  obtain ⟨hw1, hw2, hw3, hw4⟩ := words_T hb0
  refine at_know 5 (.int .u64 (m : Nat)) rfl (by rw [if_pos hw3]) ?_
  refine at_know 6 (.int .u64 (n : Nat)) rfl (by rw [if_pos hw4]) ?_
  refine at_seq (at_region (r_move rfl rfl rfl (r_move rfl rfl rfl ?_)))
  refine r_arith (r := ((m - n : Nat) : Int)) rfl rfl rfl rfl (congrArg some (c64 _ (by omega) (by omega))) ?_
  refine r_pcall [_] rfl rfl rfl (c_integer_magnitude _ (by omega)) ?_
  refine r_assign rfl rfl rfl (run_nil (at_tn (at_ret (at_tr ?_))))
  refine at_end1 rfl (res_tmp rfl) (fun w hL => ⟨?_, hL.below⟩)
  exact rfl
 ·
  refine at_skip (at_tn (at_seq (at_region (r_move rfl rfl rfl ?_))))
  refine r_scall [_] [] rfl rfl rfl (c_integer_digits m (by omega)) trivial rfl (.inr fun x b hb => by rw [List.mem_singleton.1 hb]) (fun g0 => ?_)
  refine r_move rfl rfl rfl ?_
  refine r_scall [_] [] rfl rfl rfl (c_integer_digits n (by omega)) trivial rfl (.inr fun x b hb => by rw [List.mem_singleton.1 hb]) (fun g1 => ?_)
  refine r_assign rfl rfl rfl (r_assign rfl rfl rfl (run_nil (at_tn (at_seq (at_region (r_move rfl rfl rfl (r_lenS u161 rfl rfl rfl ?_)))))))
  refine q_makeSlice (c := (digs B32 m).length) (NV .u32 (List.replicate (digs B32 m).length 0)) (fun g => [_, _, ⟨some g, 136, _, _, true⟩]) u161 el136 rfl rfl rfl rfl rfl rfl (by omega) (by rw [NV_replicate]) (fun _ => rfl) (fun g2 => ?_)
  refine r_assign rfl rfl rfl (run_nil (at_tn (at_seq (at_region (r_move rfl rfl rfl (r_move rfl rfl rfl ?_))))))
  refine q_copy 2 0 [_, _, ⟨some g2, 136, _, _, true⟩] (NV .u32 (row (digs B32 m).length (subT m n 0))) u161 el136 rfl rfl rfl rfl rfl rfl rfl rfl (NV_length _ _) (Nat.le_refl _) (by rw [NV_length, List.length_replicate]; exact Nat.le_refl _) (NV_one _ _) (subT_zero _ _) rfl ?_
  refine run_nil (at_tn (at_seq (at_region (r_assign rfl rfl rfl (run_nil (at_tn (at_seq (at_seq (at_region (r_move rfl rfl rfl (r_lenS u161 rfl rfl rfl (r_move rfl rfl rfl (run_nil (at_tn (at_block ?_)))))))))))))))
  refine enterL (nt := 71) (ι := {i : Nat // i ≤ (digs B32 m).length}) (fun ⟨i, hi⟩ => [(8, slv (some g0) 0 (digs B32 m).length (digs B32 m).length), (9, slv (some g1) 0 (digs B32 n).length (digs B32 n).length), (10, slv (some g2) 0 (digs B32 m).length (digs B32 m).length), (11, .int .i64 (subB m n i : Nat)), (37, .int .i64 ((digs B32 m).length : Nat)), (38, .int .i64 (i : Nat))]) (fun ⟨i, hi⟩ => [⟨some g0, 136, NV .u32 (digs B32 m), (digs B32 m).length, true⟩, ⟨some g1, 136, NV .u32 (digs B32 n), (digs B32 n).length, true⟩, ⟨some g2, 136, NV .u32 (row (digs B32 m).length (subT m n i)), (digs B32 m).length, true⟩]) (fun ⟨i, hi⟩ => (digs B32 m).length - i) ⟨0, Nat.zero_le _⟩ ⟨rfl, rfl, rfl, (look_val rfl (by rw [subB_zero]; rfl)), rfl, rfl, trivial⟩ (Weak.refl _) ?_
  rintro ⟨i, hi⟩
  show At _ ⟨71, [(8, slv (some g0) 0 (digs B32 m).length (digs B32 m).length), (9, slv (some g1) 0 (digs B32 n).length (digs B32 n).length), (10, slv (some g2) 0 (digs B32 m).length (digs B32 m).length), (11, .int .i64 (subB m n i : Nat)), (37, .int .i64 ((digs B32 m).length : Nat)), (38, .int .i64 (i : Nat))], [⟨some g0, 136, NV .u32 (digs B32 m), (digs B32 m).length, true⟩, ⟨some g1, 136, NV .u32 (digs B32 n), (digs B32 n).length, true⟩, ⟨some g2, 136, NV .u32 (row (digs B32 m).length (subT m n i)), (digs B32 m).length, true⟩]⟩ _
  refine at_seq (at_region (r_cmpInt rfl rfl rfl rfl rfl (run_nil (at_tn (at_seq ?_)))))
  refine at_cond rfl (fun hb2 => ?_) (fun hb2 => ?_)
  ·
   have hlt : i < (digs B32 m).length := (by have := of_decide_eq_true hb2; omega)
   have hb1 := subB_le m n i
   have hx1 := B32_mod (m / B32 ^ i)
   have hy1 := B32_mod (n / B32 ^ i)
   have hz1 := B32_mod ((m - n) / B32 ^ i)
   refine at_skip (at_tn (at_seq (at_block (at_seq (at_region (r_move rfl rfl rfl (r_assign rfl rfl rfl (run_nil (at_tn (at_seq (at_region (r_move rfl rfl rfl (r_move rfl rfl rfl ?_)))))))))))))
   refine r_indexAddr 2 (i) u161 ti136 rfl rfl rfl rfl rfl (by omega) (by omega) (NV_ne (by rw [row_length]; omega)) (by show 0 + Int.toNat _ * 1 = _; omega) ?_
   refine r_load1 2 (i) ti136 rfl rfl rfl rfl (NV_get ((row_get (by omega)).trans (by rw [subT_at]))) ?_
   refine r_conv (r := ((m / B32 ^ i % B32 : Nat) : Int)) u136 u2 rfl rfl rfl (wi (by omega) (by omega) (by omega)) ?_
   refine r_move rfl rfl rfl ?_
   refine r_arith (r := ((m / B32 ^ i % B32 : Nat) - (subB m n i : Nat) : Int)) rfl rfl rfl rfl (congrArg some (wi (by omega) (by omega) (by omega))) ?_
   refine r_assign rfl rfl rfl (run_nil (at_tn (at_seq (at_seq (at_region (r_move rfl rfl rfl (r_move rfl rfl rfl (r_lenS u161 rfl rfl rfl (r_cmpInt rfl rfl rfl rfl rfl (run_nil (at_tn ?_)))))))))))
   refine at_cond rfl (fun hb3 => ?_) (fun hb3 => ?_)
   ·
    have hly : i < (digs B32 n).length := (by have := of_decide_eq_true hb3; omega)
    refine at_region (r_move rfl rfl rfl (r_move rfl rfl rfl (r_move rfl rfl rfl ?_)))
    refine r_indexAddr 1 (i) u161 ti136 rfl rfl rfl rfl rfl (by omega) (by omega) (NV_ne (by omega)) (by show 0 + Int.toNat _ * 1 = _; omega) ?_
    refine r_load1 1 (i) ti136 rfl rfl rfl rfl (NV_get (digs_get B32_two hly)) ?_
    refine r_conv (r := ((n / B32 ^ i % B32 : Nat) : Int)) u136 u2 rfl rfl rfl (wi (by omega) (by omega) (by omega)) ?_
    refine r_arith (r := ((m / B32 ^ i % B32 : Nat) - (subB m n i : Nat) - (n / B32 ^ i % B32 : Nat) : Int)) rfl rfl rfl rfl (congrArg some (wi (by omega) (by omega) (by omega))) ?_
    refine r_assign rfl rfl rfl (run_nil (at_tn (at_seq (at_region (r_assign rfl rfl rfl (run_nil (at_tn (at_seq (at_seq (at_region (r_move rfl rfl rfl (r_cmpInt rfl rfl rfl rfl rfl (run_nil (at_tn ?_))))))))))))))
    refine at_cond rfl (fun hb4 => ?_) (fun hb4 => ?_)
    ·
     obtain ⟨hd1, hd2⟩ := sub_neg (m := m) (n := n) (i := i) h (by have := of_decide_eq_true hb4; omega)
     refine at_region (r_move rfl rfl rfl ?_)
     refine r_arith (r := (((m - n) / B32 ^ i % B32 : Nat) : Int)) rfl rfl rfl rfl (congrArg some (wi (by omega) (by omega) (by omega))) ?_
     refine r_assign rfl rfl rfl (r_assign rfl rfl rfl (run_nil (at_tn (at_region (r_move rfl rfl rfl (r_move rfl rfl rfl (r_move rfl rfl rfl ?_)))))))
     refine r_conv (r := (((m - n) / B32 ^ i % B32 : Nat) : Int)) u2 u136 rfl rfl rfl ((c32 _ rfl).trans (by rw [Nat.mod_eq_of_lt (by omega)])) ?_
     refine r_indexAddr 2 (i) u161 ti136 rfl rfl rfl rfl rfl (by omega) (by omega) (NV_ne (by rw [row_length]; omega)) (by show 0 + Int.toNat _ * 1 = _; omega) ?_
     refine r_store1 rfl 2 (i) [_, _, ⟨some g2, 136, _, _, true⟩] (NV .u32 (row (digs B32 m).length (subT m n (i + 1)))) ti136 rfl rfl rfl rfl rfl rfl rfl rfl (by rw [NV_length, row_length]; omega) (by rw [NV_set, row_set (fun j _ => subT_step _ _ i j)]) rfl ?_
     refine run_nil (at_bn (at_tn (at_region ?_)))
     refine r_arith (r := ((i + 1 : Nat) : Int)) rfl rfl rfl rfl (congrArg some (wi (by omega) (by omega) (by omega))) ?_
     refine r_move rfl rfl rfl (run_nil (at_tn ?_))
     exact nextL ⟨i + 1, hlt⟩ (by simp only []; omega) ⟨rfl, rfl, rfl, (look_val rfl (by rw [hd2]; rfl)), rfl, rfl, trivial⟩ (Weak.refl _)
    ·
     obtain ⟨hd1, hd2⟩ := sub_pos (m := m) (n := n) (i := i) h (by have := of_decide_eq_false hb4; omega)
     refine at_know 13 (.int .i64 ((m - n) / B32 ^ i % B32 : Nat)) rfl (congrArg (Value.int .i64) (by omega)) ?_
     refine at_skip (at_tn (at_region (r_move rfl rfl rfl (r_move rfl rfl rfl (r_move rfl rfl rfl ?_)))))
     refine r_conv (r := (((m - n) / B32 ^ i % B32 : Nat) : Int)) u2 u136 rfl rfl rfl ((c32 _ rfl).trans (by rw [Nat.mod_eq_of_lt (by omega)])) ?_
     refine r_indexAddr 2 (i) u161 ti136 rfl rfl rfl rfl rfl (by omega) (by omega) (NV_ne (by rw [row_length]; omega)) (by show 0 + Int.toNat _ * 1 = _; omega) ?_
     refine r_store1 rfl 2 (i) [_, _, ⟨some g2, 136, _, _, true⟩] (NV .u32 (row (digs B32 m).length (subT m n (i + 1)))) ti136 rfl rfl rfl rfl rfl rfl rfl rfl (by rw [NV_length, row_length]; omega) (by rw [NV_set, row_set (fun j _ => subT_step _ _ i j)]) rfl ?_
     refine run_nil (at_bn (at_tn (at_region ?_)))
     refine r_arith (r := ((i + 1 : Nat) : Int)) rfl rfl rfl rfl (congrArg some (wi (by omega) (by omega) (by omega))) ?_
     refine r_move rfl rfl rfl (run_nil (at_tn ?_))
     exact nextL ⟨i + 1, hlt⟩ (by simp only []; omega) ⟨rfl, rfl, rfl, (look_val rfl (by rw [hd2]; rfl)), rfl, rfl, trivial⟩ (Weak.refl _)
   ·
    have hly : (digs B32 n).length ≤ i := (by have := of_decide_eq_false hb3; omega)
    refine at_know 13 (.int .i64 ((m / B32 ^ i % B32 : Nat) - (subB m n i : Nat) - (n / B32 ^ i % B32 : Nat))) rfl (congrArg (Value.int .i64) (by rw [digs_above hly]; omega)) ?_
    refine at_skip (at_tn (at_seq (at_region (r_assign rfl rfl rfl (run_nil (at_tn (at_seq (at_seq (at_region (r_move rfl rfl rfl (r_cmpInt rfl rfl rfl rfl rfl (run_nil (at_tn ?_)))))))))))))
    refine at_cond rfl (fun hb4 => ?_) (fun hb4 => ?_)
    ·
     obtain ⟨hd1, hd2⟩ := sub_neg (m := m) (n := n) (i := i) h (by have := of_decide_eq_true hb4; omega)
     refine at_region (r_move rfl rfl rfl ?_)
     refine r_arith (r := (((m - n) / B32 ^ i % B32 : Nat) : Int)) rfl rfl rfl rfl (congrArg some (wi (by omega) (by omega) (by omega))) ?_
     refine r_assign rfl rfl rfl (r_assign rfl rfl rfl (run_nil (at_tn (at_region (r_move rfl rfl rfl (r_move rfl rfl rfl (r_move rfl rfl rfl ?_)))))))
     refine r_conv (r := (((m - n) / B32 ^ i % B32 : Nat) : Int)) u2 u136 rfl rfl rfl ((c32 _ rfl).trans (by rw [Nat.mod_eq_of_lt (by omega)])) ?_
     refine r_indexAddr 2 (i) u161 ti136 rfl rfl rfl rfl rfl (by omega) (by omega) (NV_ne (by rw [row_length]; omega)) (by show 0 + Int.toNat _ * 1 = _; omega) ?_
     refine r_store1 rfl 2 (i) [_, _, ⟨some g2, 136, _, _, true⟩] (NV .u32 (row (digs B32 m).length (subT m n (i + 1)))) ti136 rfl rfl rfl rfl rfl rfl rfl rfl (by rw [NV_length, row_length]; omega) (by rw [NV_set, row_set (fun j _ => subT_step _ _ i j)]) rfl ?_
     refine run_nil (at_bn (at_tn (at_region ?_)))
     refine r_arith (r := ((i + 1 : Nat) : Int)) rfl rfl rfl rfl (congrArg some (wi (by omega) (by omega) (by omega))) ?_
     refine r_move rfl rfl rfl (run_nil (at_tn ?_))
     exact nextL ⟨i + 1, hlt⟩ (by simp only []; omega) ⟨rfl, rfl, rfl, (look_val rfl (by rw [hd2]; rfl)), rfl, rfl, trivial⟩ (Weak.refl _)
    ·
     obtain ⟨hd1, hd2⟩ := sub_pos (m := m) (n := n) (i := i) h (by have := of_decide_eq_false hb4; omega)
     refine at_know 13 (.int .i64 ((m - n) / B32 ^ i % B32 : Nat)) rfl (congrArg (Value.int .i64) (by omega)) ?_
     refine at_skip (at_tn (at_region (r_move rfl rfl rfl (r_move rfl rfl rfl (r_move rfl rfl rfl ?_)))))
     refine r_conv (r := (((m - n) / B32 ^ i % B32 : Nat) : Int)) u2 u136 rfl rfl rfl ((c32 _ rfl).trans (by rw [Nat.mod_eq_of_lt (by omega)])) ?_
     refine r_indexAddr 2 (i) u161 ti136 rfl rfl rfl rfl rfl (by omega) (by omega) (NV_ne (by rw [row_length]; omega)) (by show 0 + Int.toNat _ * 1 = _; omega) ?_
     refine r_store1 rfl 2 (i) [_, _, ⟨some g2, 136, _, _, true⟩] (NV .u32 (row (digs B32 m).length (subT m n (i + 1)))) ti136 rfl rfl rfl rfl rfl rfl rfl rfl (by rw [NV_length, row_length]; omega) (by rw [NV_set, row_set (fun j _ => subT_step _ _ i j)]) rfl ?_
     refine run_nil (at_bn (at_tn (at_region ?_)))
     refine r_arith (r := ((i + 1 : Nat) : Int)) rfl rfl rfl rfl (congrArg some (wi (by omega) (by omega) (by omega))) ?_
     refine r_move rfl rfl rfl (run_nil (at_tn ?_))
     exact nextL ⟨i + 1, hlt⟩ (by simp only []; omega) ⟨rfl, rfl, rfl, (look_val rfl (by rw [hd2]; rfl)), rfl, rfl, trivial⟩ (Weak.refl _)
  ·
   have hge : i = (digs B32 m).length := (by have := of_decide_eq_false hb2; omega)
   subst hge
   refine at_exit (at_te (at_te (at_be (at_tn (at_seq (at_region (r_move rfl rfl rfl ?_)))))))
   refine r_scall0 [_] [2] rfl rfl rfl (c_nat_bytes (row (digs B32 m).length (subT m n (digs B32 m).length)) (row_lt fun j => subT_lt _ _ _ j) (by rw [row_length]; omega) (row_length _ _) ⟨some g2, _, _, Nat.le_refl _⟩) ⟨⟨_, rfl, le_share⟩, trivial⟩ rfl ?_
   refine r_assign rfl rfl rfl (run_nil (at_tn (at_ret ?_)))
   refine at_end1 rfl (res_tmp rfl) (fun w hL => ⟨?_, hL.below⟩)
   rw [subT_end h]
end Go.Proofs.YtncogghlhlnmaaaGreatDoor
set_option linter.unusedVariables false
namespace Go.Proofs.YtncogghlhlnmaaaGreatDoor
open Go Go.RowKit Go.Via
set_option maxRecDepth 20000 in
theorem c_integer_mul (m n : Nat) (hm : nb m ≤ 67108864) (hn : nb n ≤ 67108864) : PCall Tryz.prog 116 #[.string (mag m), .string (mag n)] (.string (mag (m * n))) := by
 have hdm := dig_len_le hm
 have hdn := dig_len_le hn
 refine ⟨by kernel_rfl, fun w => ?_⟩
 refine calls_at (args := [.string (mag m), .string (mag n)]) Tryz.func116 rfl (Nat.le_of_ble_eq_true rfl) (LRel.nil w) ?_
 show At w ⟨97, [(0, .string (mag m)), (1, .string (mag n))], []⟩ _
 refine at_seq (at_region (r_assign rfl rfl rfl (run_nil (at_tn (at_seq (at_seq (at_region (r_move rfl rfl rfl (r_move rfl rfl rfl ?_)))))))))
 refine r_pcall [_, _] rfl rfl rfl (c_integer_words _ _) ?_
 refine r_move rfl rfl rfl ?_
 refine r_extract (vs := [_, _, _]) rfl rfl rfl rfl ?_
 refine r_extract (vs := [_, _, _]) rfl rfl rfl rfl ?_
 refine r_extract (vs := [_, _, _]) rfl rfl rfl rfl ?_
 refine r_assign rfl rfl rfl (r_assign rfl rfl rfl (r_assign rfl rfl rfl (run_nil (at_tn (at_seq (at_region (r_move rfl rfl rfl (run_nil (at_tn ?_)))))))))
 refine at_cond rfl (fun hb0 => ?_) (fun hb0 => ?_)
 ·
  obtain ⟨hw1, hw2, hw3, hw4⟩ := words_T hb0
  refine at_know 5 (.int .u64 (m : Nat)) rfl (by rw [if_pos hw3]) ?_
  refine at_know 6 (.int .u64 (n : Nat)) rfl (by rw [if_pos hw4]) ?_
  refine at_seq (at_region (r_move rfl rfl rfl (r_move rfl rfl rfl ?_)))
  refine r_pcall [_, _] rfl rfl rfl (c_math_bits_Mul64 m n hw1 hw2) ?_
  refine r_move rfl rfl rfl ?_
  refine r_extract (vs := [_, _]) rfl rfl rfl rfl ?_
  refine r_extract (vs := [_, _]) rfl rfl rfl rfl ?_
  refine r_assign rfl rfl rfl (r_assign rfl rfl rfl (run_nil (at_tn (at_seq (at_region (r_move rfl rfl rfl (r_cmpInt rfl rfl rfl rfl rfl (run_nil (at_tn ?_)))))))))
  refine at_cond rfl (fun hb1 => ?_) (fun hb1 => ?_)
  ·
   have hs := mul_small (m := m) (n := n) (eq_of_beq hb1)
   refine at_seq (at_region (r_move rfl rfl rfl ?_))
   refine r_pcall [_] rfl rfl rfl (c_integer_magnitude _ (by omega)) ?_
   refine r_assign rfl rfl rfl (run_nil (at_tn (at_ret (at_tr ?_))))
   refine at_end1 rfl (res_tmp rfl) (fun w hL => ⟨?_, hL.below⟩)
   rw [hs]
  ·
   refine at_skip (at_tn (at_seq (at_region (r_move rfl rfl rfl ?_))))
   refine r_scall [_] [] rfl rfl rfl (c_integer_digits m (by omega)) trivial rfl (.inr fun x b hb => by rw [List.mem_singleton.1 hb]) (fun g0 => ?_)
   refine r_move rfl rfl rfl ?_
   refine r_scall [_] [] rfl rfl rfl (c_integer_digits n (by omega)) trivial rfl (.inr fun x b hb => by rw [List.mem_singleton.1 hb]) (fun g1 => ?_)
   refine r_assign rfl rfl rfl (r_assign rfl rfl rfl (run_nil (at_tn (at_seq (at_region (r_move rfl rfl rfl (r_lenS u161 rfl rfl rfl (r_move rfl rfl rfl (r_lenS u161 rfl rfl rfl ?_)))))))))
   refine r_arith (r := (((digs B32 m).length + (digs B32 n).length : Nat) : Int)) rfl rfl rfl rfl (congrArg some (wi (by omega) (by omega) (by omega))) ?_
   refine r_arith (r := ((((digs B32 m).length + (digs B32 n).length + 1) : Nat) : Int)) rfl rfl rfl rfl (congrArg some (wi (by omega) (by omega) (by omega))) ?_
   refine q_makeSlice (c := ((digs B32 m).length + (digs B32 n).length + 1)) (NV .u32 (row ((digs B32 m).length + (digs B32 n).length + 1) (mulR m n 0))) (fun g => [_, _, ⟨some g, 136, _, _, true⟩]) u161 el136 rfl rfl rfl rfl rfl rfl (by omega) (by rw [row_congr (g := fun _ => 0) (fun j _ => mulR_zero m n j), row_zero, NV_replicate]) (fun _ => rfl) (fun g2 => ?_)
   refine r_assign rfl rfl rfl (run_nil (at_tn (at_seq (at_seq (at_region (r_move rfl rfl rfl (r_lenS u161 rfl rfl rfl (r_move rfl rfl rfl (run_nil (at_tn (at_block ?_)))))))))))
   refine enterL (nt := 97) (ι := {i : Nat // i ≤ (digs B32 m).length}) (fun ⟨i, hi⟩ => [(11, slv (some g1) 0 (digs B32 n).length (digs B32 n).length), (12, slv (some g2) 0 ((digs B32 m).length + (digs B32 n).length + 1) ((digs B32 m).length + (digs B32 n).length + 1)), (46, slv (some g0) 0 (digs B32 m).length (digs B32 m).length), (47, .int .i64 ((digs B32 m).length : Nat)), (48, .int .i64 (i : Nat))]) (fun ⟨i, hi⟩ => [⟨some g0, 136, NV .u32 (digs B32 m), (digs B32 m).length, true⟩, ⟨some g1, 136, NV .u32 (digs B32 n), (digs B32 n).length, true⟩, ⟨some g2, 136, NV .u32 (row ((digs B32 m).length + (digs B32 n).length + 1) (mulR m n i)), ((digs B32 m).length + (digs B32 n).length + 1), true⟩]) (fun ⟨i, hi⟩ => (digs B32 m).length - i) ⟨0, Nat.zero_le _⟩ ⟨rfl, rfl, rfl, rfl, rfl, trivial⟩ (Weak.refl _) ?_
   rintro ⟨i, hi⟩
   show At _ ⟨97, [(11, slv (some g1) 0 (digs B32 n).length (digs B32 n).length), (12, slv (some g2) 0 ((digs B32 m).length + (digs B32 n).length + 1) ((digs B32 m).length + (digs B32 n).length + 1)), (46, slv (some g0) 0 (digs B32 m).length (digs B32 m).length), (47, .int .i64 ((digs B32 m).length : Nat)), (48, .int .i64 (i : Nat))], [⟨some g0, 136, NV .u32 (digs B32 m), (digs B32 m).length, true⟩, ⟨some g1, 136, NV .u32 (digs B32 n), (digs B32 n).length, true⟩, ⟨some g2, 136, NV .u32 (row ((digs B32 m).length + (digs B32 n).length + 1) (mulR m n i)), ((digs B32 m).length + (digs B32 n).length + 1), true⟩]⟩ _
   refine at_seq (at_region (r_cmpInt rfl rfl rfl rfl rfl (run_nil (at_tn (at_seq ?_)))))
   refine at_cond rfl (fun hb3 => ?_) (fun hb3 => ?_)
   ·
    have hlt : i < (digs B32 m).length := (by have := of_decide_eq_true hb3; omega)
    refine at_skip (at_tn (at_seq (at_block (at_seq (at_region (r_move rfl rfl rfl ?_))))))
    refine r_indexAddr 0 (i) u161 ti136 rfl rfl rfl rfl rfl (by omega) (by omega) (NV_ne (by omega)) (by show 0 + Int.toNat _ * 1 = _; omega) ?_
    refine r_load1 0 (i) ti136 rfl rfl rfl rfl (NV_get (digs_get B32_two hlt)) ?_
    refine r_assign rfl rfl rfl (r_assign rfl rfl rfl (run_nil (at_tn (at_seq (at_region (r_assign rfl rfl rfl (run_nil (at_tn (at_seq (at_seq (at_region (r_move rfl rfl rfl (r_lenS u161 rfl rfl rfl (r_move rfl rfl rfl (run_nil (at_tn (at_block ?_)))))))))))))))))
    refine enterL (nt := 97) (ι := {k : Nat // k ≤ (digs B32 n).length}) (fun ⟨k, hk5⟩ => [(11, slv (some g1) 0 (digs B32 n).length (digs B32 n).length), (12, slv (some g2) 0 ((digs B32 m).length + (digs B32 n).length + 1) ((digs B32 m).length + (digs B32 n).length + 1)), (46, slv (some g0) 0 (digs B32 m).length (digs B32 m).length), (47, .int .i64 ((digs B32 m).length : Nat)), (48, .int .i64 (i : Nat)), (13, .int .i64 (i : Nat)), (14, .int .u32 (m / B32 ^ i % B32 : Nat)), (15, .int .u64 (mulC m n i k : Nat)), (54, .int .i64 ((digs B32 n).length : Nat)), (55, .int .i64 (k : Nat))]) (fun ⟨k, hk5⟩ => [⟨some g0, 136, NV .u32 (digs B32 m), (digs B32 m).length, true⟩, ⟨some g1, 136, NV .u32 (digs B32 n), (digs B32 n).length, true⟩, ⟨some g2, 136, NV .u32 (row ((digs B32 m).length + (digs B32 n).length + 1) (mulT m n i k)), ((digs B32 m).length + (digs B32 n).length + 1), true⟩]) (fun ⟨k, hk5⟩ => (digs B32 n).length - k) ⟨0, Nat.zero_le _⟩ ⟨rfl, rfl, rfl, rfl, rfl, rfl, rfl, (look_val rfl (by rw [mulC_zero]; rfl)), rfl, rfl, trivial⟩ (weak_eq (by rw [row_congr (fun j _ => (mulT_zero m n i j).symm)])) ?_
    rintro ⟨k, hk5⟩
    show At _ ⟨97, [(11, slv (some g1) 0 (digs B32 n).length (digs B32 n).length), (12, slv (some g2) 0 ((digs B32 m).length + (digs B32 n).length + 1) ((digs B32 m).length + (digs B32 n).length + 1)), (46, slv (some g0) 0 (digs B32 m).length (digs B32 m).length), (47, .int .i64 ((digs B32 m).length : Nat)), (48, .int .i64 (i : Nat)), (13, .int .i64 (i : Nat)), (14, .int .u32 (m / B32 ^ i % B32 : Nat)), (15, .int .u64 (mulC m n i k : Nat)), (54, .int .i64 ((digs B32 n).length : Nat)), (55, .int .i64 (k : Nat))], [⟨some g0, 136, NV .u32 (digs B32 m), (digs B32 m).length, true⟩, ⟨some g1, 136, NV .u32 (digs B32 n), (digs B32 n).length, true⟩, ⟨some g2, 136, NV .u32 (row ((digs B32 m).length + (digs B32 n).length + 1) (mulT m n i k)), ((digs B32 m).length + (digs B32 n).length + 1), true⟩]⟩ _
    refine at_seq (at_region (r_cmpInt rfl rfl rfl rfl rfl (run_nil (at_tn (at_seq ?_)))))
    refine at_cond rfl (fun hb5 => ?_) (fun hb5 => ?_)
    ·
     have hk : k < (digs B32 n).length := (by have := of_decide_eq_true hb5; omega)
     have hc1 := mulC_lt m n i k
     have hs1 := mulS_lt m n i k
     have hv1 := B32_mod (mulV m n i / B32 ^ (i + k))
     have hx1 := B32_mod (m / B32 ^ i)
     have hy1 := B32_mod (n / B32 ^ k)
     have hd1 := dmul_le (m / B32 ^ i) (n / B32 ^ k)
     have hc2 : mulC m n i k < 4294967296 := hc1
     refine at_skip (at_tn (at_seq (at_block (at_seq (at_region (r_move rfl rfl rfl (r_assign rfl rfl rfl (run_nil (at_tn (at_seq ?_))))))))))
     refine at_drawn (l' := [⟨_,_,_,_,_,_⟩, ⟨_,_,_,_,_,_⟩, ⟨_,_,_,_,_,_⟩, ⟨_,_,_,_,_,_⟩, ⟨_,_,_,_,_,_⟩, ⟨_,_,_,_,_,_⟩, ⟨_,_,_,_,_,_⟩, ⟨_,_,_,_,_,_⟩, ⟨_,_,_,_,_,_⟩, ⟨_,_,_,_,_,_⟩, ⟨_,_,_,_,_,_⟩, ⟨_,_,_,_,_,_⟩, ⟨_,_,_,_,_,_⟩, ⟨_,_,_,_,_,_⟩, ⟨_,_,_,_,_,_⟩, ⟨_,_,_,_,_,_⟩, ⟨_,_,_,_,_,_⟩, ⟨_,_,_,_,_,_⟩, ⟨_,_,_,_,_,_⟩]) [] [0, 1, 2, 3, 4, 5, 6, 7, 8, 9, 10, 11, 12, 13, 14, 15, 16, 17, 18] mixed (by kernel_rfl) rfl (by kernel_rfl) ?_
     refine r_move rfl rfl rfl (r_move rfl rfl rfl (r_move rfl rfl rfl (r_move rfl rfl rfl ?_)))
     refine r_arith (r := ((i + k : Nat) : Int)) rfl rfl rfl rfl (congrArg some (wi (by omega) (by omega) (by omega))) ?_
     refine r_indexAddr 2 (i + k) u161 ti136 rfl rfl rfl rfl rfl (by omega) (by omega) (NV_ne (by rw [row_length]; omega)) (by show 0 + Int.toNat _ * 1 = _; omega) ?_
     refine r_load1 2 (i + k) ti136 rfl rfl rfl rfl (NV_get ((row_get (by omega)).trans (by rw [mulT_at]))) ?_
     refine r_conv (r := ((mulV m n i / B32 ^ (i + k) % B32 : Nat) : Int)) u136 u116 rfl rfl rfl (c64 _ rfl (by omega)) ?_
     refine r_move rfl rfl rfl ?_
     refine r_conv (r := ((m / B32 ^ i % B32 : Nat) : Int)) u136 u116 rfl rfl rfl (c64 _ rfl (by omega)) ?_
     refine r_move rfl rfl rfl (r_move rfl rfl rfl ?_)
     refine r_indexAddr 1 (k) u161 ti136 rfl rfl rfl rfl rfl (by omega) (by omega) (NV_ne (by omega)) (by show 0 + Int.toNat _ * 1 = _; omega) ?_
     refine r_load1 1 (k) ti136 rfl rfl rfl rfl (NV_get (digs_get B32_two hk)) ?_
     refine r_conv (r := ((n / B32 ^ k % B32 : Nat) : Int)) u136 u116 rfl rfl rfl (c64 _ rfl (by omega)) ?_
     refine r_arith (r := ((m / B32 ^ i % B32 * (n / B32 ^ k % B32) : Nat) : Int)) rfl rfl rfl rfl (congrArg some (c64 _ (Int.natCast_mul _ _).symm (by omega))) ?_
     refine r_arith (r := ((mulV m n i / B32 ^ (i + k) % B32 + m / B32 ^ i % B32 * (n / B32 ^ k % B32) : Nat) : Int)) rfl rfl rfl rfl (congrArg some (c64 _ (by rw [Int.natCast_add]) (mulS_lt1 m n i k))) ?_
     refine r_arith (r := ((mulS m n i k : Nat) : Int)) rfl rfl rfl rfl (congrArg some (c64 _ (mulS_cast m n i k) (mulS_lt m n i k))) ?_
     refine r_assign rfl rfl rfl (run_nil (at_tn (at_region (r_move rfl rfl rfl (r_move rfl rfl rfl (r_move rfl rfl rfl ?_))))))
     refine r_arith (r := ((i + k : Nat) : Int)) rfl rfl rfl rfl (congrArg some (wi (by omega) (by omega) (by omega))) ?_
     refine r_move rfl rfl rfl ?_
     refine r_conv (r := ((mulS m n i k % 4294967296 : Nat) : Int)) u116 u136 rfl rfl rfl (c32 _ rfl) ?_
     refine r_move rfl rfl rfl ?_
     refine r_shift (r := ((mulC m n i (k + 1) : Nat) : Int)) rfl rfl rfl rfl (by omega) (congrArg some ((shr_u _ 32 rfl rfl (by omega)).trans (by rw [mulS_carry]))) ?_
     refine r_indexAddr 2 (i + k) u161 ti136 rfl rfl rfl rfl rfl (by omega) (by omega) (NV_ne (by rw [row_length]; omega)) (by show 0 + Int.toNat _ * 1 = _; omega) ?_
     refine r_store1 rfl 2 (i + k) [_, _, ⟨some g2, 136, _, _, true⟩] (NV .u32 (row ((digs B32 m).length + (digs B32 n).length + 1) (mulT m n i (k + 1)))) ti136 rfl rfl rfl rfl rfl rfl rfl rfl (by rw [NV_length, row_length]; omega) (by rw [NV_set, row_set (fun j _ => mulT_step m n i k j)]) rfl ?_
     refine r_assign rfl rfl rfl (run_nil (at_bn (at_tn (at_region ?_))))
     refine r_arith (r := ((k + 1 : Nat) : Int)) rfl rfl rfl rfl (congrArg some (wi (by omega) (by omega) (by omega))) ?_
     refine r_move rfl rfl rfl (run_nil (at_tn ?_))
     exact nextL ⟨k + 1, hk⟩ (by simp only []; omega) ⟨rfl, rfl, rfl, rfl, rfl, rfl, rfl, rfl, rfl, rfl, trivial⟩ (Weak.refl _)
    ·
     have hk4 : k = (digs B32 n).length := (by have := of_decide_eq_false hb5; omega)
     subst hk4
     refine at_exit (at_te (at_te (at_be (at_tn (at_region (r_move rfl rfl rfl (r_move rfl rfl rfl (r_move rfl rfl rfl (r_lenS u161 rfl rfl rfl ?_)))))))))
     refine r_arith (r := ((i + (digs B32 n).length : Nat) : Int)) rfl rfl rfl rfl (congrArg some (wi (by omega) (by omega) (by omega))) ?_
     refine r_move rfl rfl rfl ?_
     refine r_conv (r := ((mulC m n i (digs B32 n).length % 4294967296 : Nat) : Int)) u116 u136 rfl rfl rfl (c32 _ rfl) ?_
     refine r_indexAddr 2 (i + (digs B32 n).length) u161 ti136 rfl rfl rfl rfl rfl (by omega) (by omega) (NV_ne (by rw [row_length]; omega)) (by show 0 + Int.toNat _ * 1 = _; omega) ?_
     refine r_store1 rfl 2 (i + (digs B32 n).length) [_, _, ⟨some g2, 136, _, _, true⟩] (NV .u32 (row ((digs B32 m).length + (digs B32 n).length + 1) (mulR m n (i + 1)))) ti136 rfl rfl rfl rfl rfl rfl rfl rfl (by rw [NV_length, row_length]; omega) (by rw [NV_set, row_set (fun j _ => mulT_last m n i j)]) rfl ?_
     refine run_nil (at_bn (at_tn (at_region ?_)))
     refine r_arith (r := ((i + 1 : Nat) : Int)) rfl rfl rfl rfl (congrArg some (wi (by omega) (by omega) (by omega))) ?_
     refine r_move rfl rfl rfl (run_nil (at_tn ?_))
     exact nextL ⟨i + 1, hlt⟩ (by simp only []; omega) ⟨rfl, rfl, rfl, rfl, rfl, trivial⟩ (Weak.refl _)
   ·
    have hge : i = (digs B32 m).length := (by have := of_decide_eq_false hb3; omega)
    subst hge
    refine at_exit (at_te (at_te (at_be (at_tn (at_seq (at_region (r_move rfl rfl rfl ?_)))))))
    refine r_scall0 [_] [2] rfl rfl rfl (c_nat_bytes (row ((digs B32 m).length + (digs B32 n).length + 1) (mulR m n (digs B32 m).length)) (row_lt fun j => mulR_lt _ _ _ j) (by rw [row_length]; omega) (row_length _ _) ⟨some g2, _, _, Nat.le_refl _⟩) ⟨⟨_, rfl, le_share⟩, trivial⟩ rfl ?_
    refine r_assign rfl rfl rfl (run_nil (at_tn (at_ret ?_)))
    refine at_end1 rfl (res_tmp rfl) (fun w hL => ⟨?_, hL.below⟩)
    rw [mulR_end]
 ·
  refine at_skip (at_tn (at_seq (at_region (r_move rfl rfl rfl ?_))))
  refine r_scall [_] [] rfl rfl rfl (c_integer_digits m (by omega)) trivial rfl (.inr fun x b hb => by rw [List.mem_singleton.1 hb]) (fun g0 => ?_)
  refine r_move rfl rfl rfl ?_
  refine r_scall [_] [] rfl rfl rfl (c_integer_digits n (by omega)) trivial rfl (.inr fun x b hb => by rw [List.mem_singleton.1 hb]) (fun g1 => ?_)
  refine r_assign rfl rfl rfl (r_assign rfl rfl rfl (run_nil (at_tn (at_seq (at_region (r_move rfl rfl rfl (r_lenS u161 rfl rfl rfl (r_move rfl rfl rfl (r_lenS u161 rfl rfl rfl ?_)))))))))
  refine r_arith (r := (((digs B32 m).length + (digs B32 n).length : Nat) : Int)) rfl rfl rfl rfl (congrArg some (wi (by omega) (by omega) (by omega))) ?_
  refine r_arith (r := ((((digs B32 m).length + (digs B32 n).length + 1) : Nat) : Int)) rfl rfl rfl rfl (congrArg some (wi (by omega) (by omega) (by omega))) ?_
  refine q_makeSlice (c := ((digs B32 m).length + (digs B32 n).length + 1)) (NV .u32 (row ((digs B32 m).length + (digs B32 n).length + 1) (mulR m n 0))) (fun g => [_, _, ⟨some g, 136, _, _, true⟩]) u161 el136 rfl rfl rfl rfl rfl rfl (by omega) (by rw [row_congr (g := fun _ => 0) (fun j _ => mulR_zero m n j), row_zero, NV_replicate]) (fun _ => rfl) (fun g2 => ?_)
  refine r_assign rfl rfl rfl (run_nil (at_tn (at_seq (at_seq (at_region (r_move rfl rfl rfl (r_lenS u161 rfl rfl rfl (r_move rfl rfl rfl (run_nil (at_tn (at_block ?_)))))))))))
  refine enterL (nt := 97) (ι := {i : Nat // i ≤ (digs B32 m).length}) (fun ⟨i, hi⟩ => [(11, slv (some g1) 0 (digs B32 n).length (digs B32 n).length), (12, slv (some g2) 0 ((digs B32 m).length + (digs B32 n).length + 1) ((digs B32 m).length + (digs B32 n).length + 1)), (46, slv (some g0) 0 (digs B32 m).length (digs B32 m).length), (47, .int .i64 ((digs B32 m).length : Nat)), (48, .int .i64 (i : Nat))]) (fun ⟨i, hi⟩ => [⟨some g0, 136, NV .u32 (digs B32 m), (digs B32 m).length, true⟩, ⟨some g1, 136, NV .u32 (digs B32 n), (digs B32 n).length, true⟩, ⟨some g2, 136, NV .u32 (row ((digs B32 m).length + (digs B32 n).length + 1) (mulR m n i)), ((digs B32 m).length + (digs B32 n).length + 1), true⟩]) (fun ⟨i, hi⟩ => (digs B32 m).length - i) ⟨0, Nat.zero_le _⟩ ⟨rfl, rfl, rfl, rfl, rfl, trivial⟩ (Weak.refl _) ?_
  rintro ⟨i, hi⟩
  show At _ ⟨97, [(11, slv (some g1) 0 (digs B32 n).length (digs B32 n).length), (12, slv (some g2) 0 ((digs B32 m).length + (digs B32 n).length + 1) ((digs B32 m).length + (digs B32 n).length + 1)), (46, slv (some g0) 0 (digs B32 m).length (digs B32 m).length), (47, .int .i64 ((digs B32 m).length : Nat)), (48, .int .i64 (i : Nat))], [⟨some g0, 136, NV .u32 (digs B32 m), (digs B32 m).length, true⟩, ⟨some g1, 136, NV .u32 (digs B32 n), (digs B32 n).length, true⟩, ⟨some g2, 136, NV .u32 (row ((digs B32 m).length + (digs B32 n).length + 1) (mulR m n i)), ((digs B32 m).length + (digs B32 n).length + 1), true⟩]⟩ _
  refine at_seq (at_region (r_cmpInt rfl rfl rfl rfl rfl (run_nil (at_tn (at_seq ?_)))))
  refine at_cond rfl (fun hb2 => ?_) (fun hb2 => ?_)
  ·
   have hlt : i < (digs B32 m).length := (by have := of_decide_eq_true hb2; omega)
   refine at_skip (at_tn (at_seq (at_block (at_seq (at_region (r_move rfl rfl rfl ?_))))))
   refine r_indexAddr 0 (i) u161 ti136 rfl rfl rfl rfl rfl (by omega) (by omega) (NV_ne (by omega)) (by show 0 + Int.toNat _ * 1 = _; omega) ?_
   refine r_load1 0 (i) ti136 rfl rfl rfl rfl (NV_get (digs_get B32_two hlt)) ?_
   refine r_assign rfl rfl rfl (r_assign rfl rfl rfl (run_nil (at_tn (at_seq (at_region (r_assign rfl rfl rfl (run_nil (at_tn (at_seq (at_seq (at_region (r_move rfl rfl rfl (r_lenS u161 rfl rfl rfl (r_move rfl rfl rfl (run_nil (at_tn (at_block ?_)))))))))))))))))
   refine enterL (nt := 97) (ι := {k : Nat // k ≤ (digs B32 n).length}) (fun ⟨k, hk5⟩ => [(11, slv (some g1) 0 (digs B32 n).length (digs B32 n).length), (12, slv (some g2) 0 ((digs B32 m).length + (digs B32 n).length + 1) ((digs B32 m).length + (digs B32 n).length + 1)), (46, slv (some g0) 0 (digs B32 m).length (digs B32 m).length), (47, .int .i64 ((digs B32 m).length : Nat)), (48, .int .i64 (i : Nat)), (13, .int .i64 (i : Nat)), (14, .int .u32 (m / B32 ^ i % B32 : Nat)), (15, .int .u64 (mulC m n i k : Nat)), (54, .int .i64 ((digs B32 n).length : Nat)), (55, .int .i64 (k : Nat))]) (fun ⟨k, hk5⟩ => [⟨some g0, 136, NV .u32 (digs B32 m), (digs B32 m).length, true⟩, ⟨some g1, 136, NV .u32 (digs B32 n), (digs B32 n).length, true⟩, ⟨some g2, 136, NV .u32 (row ((digs B32 m).length + (digs B32 n).length + 1) (mulT m n i k)), ((digs B32 m).length + (digs B32 n).length + 1), true⟩]) (fun ⟨k, hk5⟩ => (digs B32 n).length - k) ⟨0, Nat.zero_le _⟩ ⟨rfl, rfl, rfl, rfl, rfl, rfl, rfl, (look_val rfl (by rw [mulC_zero]; rfl)), rfl, rfl, trivial⟩ (weak_eq (by rw [row_congr (fun j _ => (mulT_zero m n i j).symm)])) ?_
   rintro ⟨k, hk5⟩
   show At _ ⟨97, [(11, slv (some g1) 0 (digs B32 n).length (digs B32 n).length), (12, slv (some g2) 0 ((digs B32 m).length + (digs B32 n).length + 1) ((digs B32 m).length + (digs B32 n).length + 1)), (46, slv (some g0) 0 (digs B32 m).length (digs B32 m).length), (47, .int .i64 ((digs B32 m).length : Nat)), (48, .int .i64 (i : Nat)), (13, .int .i64 (i : Nat)), (14, .int .u32 (m / B32 ^ i % B32 : Nat)), (15, .int .u64 (mulC m n i k : Nat)), (54, .int .i64 ((digs B32 n).length : Nat)), (55, .int .i64 (k : Nat))], [⟨some g0, 136, NV .u32 (digs B32 m), (digs B32 m).length, true⟩, ⟨some g1, 136, NV .u32 (digs B32 n), (digs B32 n).length, true⟩, ⟨some g2, 136, NV .u32 (row ((digs B32 m).length + (digs B32 n).length + 1) (mulT m n i k)), ((digs B32 m).length + (digs B32 n).length + 1), true⟩]⟩ _
   refine at_seq (at_region (r_cmpInt rfl rfl rfl rfl rfl (run_nil (at_tn (at_seq ?_)))))
   refine at_cond rfl (fun hb4 => ?_) (fun hb4 => ?_)
   ·
    have hk : k < (digs B32 n).length := (by have := of_decide_eq_true hb4; omega)
    have hc1 := mulC_lt m n i k
    have hs1 := mulS_lt m n i k
    have hv1 := B32_mod (mulV m n i / B32 ^ (i + k))
    have hx1 := B32_mod (m / B32 ^ i)
    have hy1 := B32_mod (n / B32 ^ k)
    have hd1 := dmul_le (m / B32 ^ i) (n / B32 ^ k)
    have hc2 : mulC m n i k < 4294967296 := hc1
    refine at_skip (at_tn (at_seq (at_block (at_seq (at_region (r_move rfl rfl rfl (r_assign rfl rfl rfl (run_nil (at_tn (at_seq ?_))))))))))
    refine at_drawn (l' := [⟨_,_,_,_,_,_⟩, ⟨_,_,_,_,_,_⟩, ⟨_,_,_,_,_,_⟩, ⟨_,_,_,_,_,_⟩, ⟨_,_,_,_,_,_⟩, ⟨_,_,_,_,_,_⟩, ⟨_,_,_,_,_,_⟩, ⟨_,_,_,_,_,_⟩, ⟨_,_,_,_,_,_⟩, ⟨_,_,_,_,_,_⟩, ⟨_,_,_,_,_,_⟩, ⟨_,_,_,_,_,_⟩, ⟨_,_,_,_,_,_⟩, ⟨_,_,_,_,_,_⟩, ⟨_,_,_,_,_,_⟩, ⟨_,_,_,_,_,_⟩, ⟨_,_,_,_,_,_⟩, ⟨_,_,_,_,_,_⟩, ⟨_,_,_,_,_,_⟩]) [] [0, 1, 2, 3, 4, 5, 6, 7, 8, 9, 10, 11, 12, 13, 14, 15, 16, 17, 18] mixed (by kernel_rfl) rfl (by kernel_rfl) ?_
    refine r_move rfl rfl rfl (r_move rfl rfl rfl (r_move rfl rfl rfl (r_move rfl rfl rfl ?_)))
    refine r_arith (r := ((i + k : Nat) : Int)) rfl rfl rfl rfl (congrArg some (wi (by omega) (by omega) (by omega))) ?_
    refine r_indexAddr 2 (i + k) u161 ti136 rfl rfl rfl rfl rfl (by omega) (by omega) (NV_ne (by rw [row_length]; omega)) (by show 0 + Int.toNat _ * 1 = _; omega) ?_
    refine r_load1 2 (i + k) ti136 rfl rfl rfl rfl (NV_get ((row_get (by omega)).trans (by rw [mulT_at]))) ?_
    refine r_conv (r := ((mulV m n i / B32 ^ (i + k) % B32 : Nat) : Int)) u136 u116 rfl rfl rfl (c64 _ rfl (by omega)) ?_
    refine r_move rfl rfl rfl ?_
    refine r_conv (r := ((m / B32 ^ i % B32 : Nat) : Int)) u136 u116 rfl rfl rfl (c64 _ rfl (by omega)) ?_
    refine r_move rfl rfl rfl (r_move rfl rfl rfl ?_)
    refine r_indexAddr 1 (k) u161 ti136 rfl rfl rfl rfl rfl (by omega) (by omega) (NV_ne (by omega)) (by show 0 + Int.toNat _ * 1 = _; omega) ?_
    refine r_load1 1 (k) ti136 rfl rfl rfl rfl (NV_get (digs_get B32_two hk)) ?_
    refine r_conv (r := ((n / B32 ^ k % B32 : Nat) : Int)) u136 u116 rfl rfl rfl (c64 _ rfl (by omega)) ?_
    refine r_arith (r := ((m / B32 ^ i % B32 * (n / B32 ^ k % B32) : Nat) : Int)) rfl rfl rfl rfl (congrArg some (c64 _ (Int.natCast_mul _ _).symm (by omega))) ?_
    refine r_arith (r := ((mulV m n i / B32 ^ (i + k) % B32 + m / B32 ^ i % B32 * (n / B32 ^ k % B32) : Nat) : Int)) rfl rfl rfl rfl (congrArg some (c64 _ (by rw [Int.natCast_add]) (mulS_lt1 m n i k))) ?_
    refine r_arith (r := ((mulS m n i k : Nat) : Int)) rfl rfl rfl rfl (congrArg some (c64 _ (mulS_cast m n i k) (mulS_lt m n i k))) ?_
    refine r_assign rfl rfl rfl (run_nil (at_tn (at_region (r_move rfl rfl rfl (r_move rfl rfl rfl (r_move rfl rfl rfl ?_))))))
    refine r_arith (r := ((i + k : Nat) : Int)) rfl rfl rfl rfl (congrArg some (wi (by omega) (by omega) (by omega))) ?_
    refine r_move rfl rfl rfl ?_
    refine r_conv (r := ((mulS m n i k % 4294967296 : Nat) : Int)) u116 u136 rfl rfl rfl (c32 _ rfl) ?_
    refine r_move rfl rfl rfl ?_
    refine r_shift (r := ((mulC m n i (k + 1) : Nat) : Int)) rfl rfl rfl rfl (by omega) (congrArg some ((shr_u _ 32 rfl rfl (by omega)).trans (by rw [mulS_carry]))) ?_
    refine r_indexAddr 2 (i + k) u161 ti136 rfl rfl rfl rfl rfl (by omega) (by omega) (NV_ne (by rw [row_length]; omega)) (by show 0 + Int.toNat _ * 1 = _; omega) ?_
    refine r_store1 rfl 2 (i + k) [_, _, ⟨some g2, 136, _, _, true⟩] (NV .u32 (row ((digs B32 m).length + (digs B32 n).length + 1) (mulT m n i (k + 1)))) ti136 rfl rfl rfl rfl rfl rfl rfl rfl (by rw [NV_length, row_length]; omega) (by rw [NV_set, row_set (fun j _ => mulT_step m n i k j)]) rfl ?_
    refine r_assign rfl rfl rfl (run_nil (at_bn (at_tn (at_region ?_))))
    refine r_arith (r := ((k + 1 : Nat) : Int)) rfl rfl rfl rfl (congrArg some (wi (by omega) (by omega) (by omega))) ?_
    refine r_move rfl rfl rfl (run_nil (at_tn ?_))
    exact nextL ⟨k + 1, hk⟩ (by simp only []; omega) ⟨rfl, rfl, rfl, rfl, rfl, rfl, rfl, rfl, rfl, rfl, trivial⟩ (Weak.refl _)
   ·
    have hk4 : k = (digs B32 n).length := (by have := of_decide_eq_false hb4; omega)
    subst hk4
    refine at_exit (at_te (at_te (at_be (at_tn (at_region (r_move rfl rfl rfl (r_move rfl rfl rfl (r_move rfl rfl rfl (r_lenS u161 rfl rfl rfl ?_)))))))))
    refine r_arith (r := ((i + (digs B32 n).length : Nat) : Int)) rfl rfl rfl rfl (congrArg some (wi (by omega) (by omega) (by omega))) ?_
    refine r_move rfl rfl rfl ?_
    refine r_conv (r := ((mulC m n i (digs B32 n).length % 4294967296 : Nat) : Int)) u116 u136 rfl rfl rfl (c32 _ rfl) ?_
    refine r_indexAddr 2 (i + (digs B32 n).length) u161 ti136 rfl rfl rfl rfl rfl (by omega) (by omega) (NV_ne (by rw [row_length]; omega)) (by show 0 + Int.toNat _ * 1 = _; omega) ?_
    refine r_store1 rfl 2 (i + (digs B32 n).length) [_, _, ⟨some g2, 136, _, _, true⟩] (NV .u32 (row ((digs B32 m).length + (digs B32 n).length + 1) (mulR m n (i + 1)))) ti136 rfl rfl rfl rfl rfl rfl rfl rfl (by rw [NV_length, row_length]; omega) (by rw [NV_set, row_set (fun j _ => mulT_last m n i j)]) rfl ?_
    refine run_nil (at_bn (at_tn (at_region ?_)))
    refine r_arith (r := ((i + 1 : Nat) : Int)) rfl rfl rfl rfl (congrArg some (wi (by omega) (by omega) (by omega))) ?_
    refine r_move rfl rfl rfl (run_nil (at_tn ?_))
    exact nextL ⟨i + 1, hlt⟩ (by simp only []; omega) ⟨rfl, rfl, rfl, rfl, rfl, trivial⟩ (Weak.refl _)
  ·
   have hge : i = (digs B32 m).length := (by have := of_decide_eq_false hb2; omega)
   subst hge
   refine at_exit (at_te (at_te (at_be (at_tn (at_seq (at_region (r_move rfl rfl rfl ?_)))))))
   refine r_scall0 [_] [2] rfl rfl rfl (c_nat_bytes (row ((digs B32 m).length + (digs B32 n).length + 1) (mulR m n (digs B32 m).length)) (row_lt fun j => mulR_lt _ _ _ j) (by rw [row_length]; omega) (row_length _ _) ⟨some g2, _, _, Nat.le_refl _⟩) ⟨⟨_, rfl, le_share⟩, trivial⟩ rfl ?_
   refine r_assign rfl rfl rfl (run_nil (at_tn (at_ret ?_)))
   refine at_end1 rfl (res_tmp rfl) (fun w hL => ⟨?_, hL.below⟩)
   rw [mulR_end]
end Go.Proofs.YtncogghlhlnmaaaGreatDoor
set_option linter.unusedVariables false
namespace Go.Proofs.YtncogghlhlnmaaaGreatDoor
open Go Go.RowKit Go.Via
set_option maxRecDepth 20000 in
theorem c_integer_Gcd (a b : Int) (ha : szI a ≤ 67108864) (hb : szI b ≤ 67108864) : PCall Tryz.prog 97 #[I a, I b] (I (Int.gcd a b)) := by
 refine ⟨by kernel_rfl, fun w => ?_⟩
 refine calls_at (args := [I a, I b]) Tryz.func97 rfl (Nat.le_of_ble_eq_true rfl) (LRel.nil w) ?_
 show At w ⟨45, [(0, I a), (1, I b)], []⟩ _
 refine at_seq (at_region ?_)
 refine r_box [_, _] 2 (fun g => [⟨some g, 61, _, 2, true⟩]) rfl rfl rfl rfl rfl (fun _ => rfl) (fun g0 => ?_)
 refine r_box [_, _] 2 (fun g => [_, ⟨some g, 61, _, 2, true⟩]) rfl rfl rfl rfl rfl (fun _ => rfl) (fun g1 => ?_)
 refine r_alloc [_, _] 2 (fun g => [_, _, ⟨some g, 61, _, 2, true⟩]) rfl rfl z61 rfl rfl (fun _ => rfl) (fun g2 => ?_)
 refine run_nil (at_tn (at_seq ?_))
 refine at_drawn (l' := [⟨_,_,_,_,_,_⟩, ⟨_,_,_,_,_,_⟩, ⟨_,_,_,_,_,_⟩, ⟨_,_,_,_,_,_⟩, ⟨_,_,_,_,_,_⟩, ⟨_,_,_,_,_,_⟩]) [2000000] [0, 1, 2, 3, 4, 5] mixed (by kernel_rfl) rfl (by kernel_rfl) ?_
 refine r_fieldAddr 0 0 1 rfl rfl rfl rfl rfl ti61 rfl rfl (r_load 0 1 [_] rfl rfl rfl rfl ti9 rfl rfl rfl rfl (r_fieldAddr 1 0 1 rfl rfl rfl rfl rfl ti61 rfl rfl (r_load 1 1 [_] rfl rfl rfl rfl ti9 rfl rfl rfl rfl (r_assign rfl rfl rfl (r_assign rfl rfl rfl (run_nil (at_tn (at_seq (at_block ?_)))))))))
 refine enterL (nt := 45) (ι := {x : Nat × Nat // Nat.gcd x.1 x.2 = Int.gcd a b ∧ nb x.1 ≤ 67108864 ∧ nb x.2 ≤ 67108864}) (fun ⟨⟨x, y⟩, hg, hx, hy⟩ => [(4, .pointer (some ⟨g2, 0, none⟩)), (5, .string (mag x)), (6, .string (mag y))]) (fun ⟨⟨x, y⟩, hg, hx, hy⟩ => [⟨some g0, 61, [.bool (decide (a < 0)), .string (mag a.natAbs)], 2, true⟩, ⟨some g1, 61, [.bool (decide (b < 0)), .string (mag b.natAbs)], 2, true⟩, ⟨some g2, 61, [.bool false, .string ⟨#[]⟩], 2, true⟩]) (fun ⟨⟨x, y⟩, hg, hx, hy⟩ => y) ⟨(a.natAbs, b.natAbs), rfl, ha, hb⟩ ⟨rfl, rfl, rfl, trivial⟩ (Weak.refl _) ?_
 rintro ⟨⟨x, y⟩, hg, hx, hy⟩
 show At _ ⟨45, [(4, .pointer (some ⟨g2, 0, none⟩)), (5, .string (mag x)), (6, .string (mag y))], [⟨some g0, 61, [.bool (decide (a < 0)), .string (mag a.natAbs)], 2, true⟩, ⟨some g1, 61, [.bool (decide (b < 0)), .string (mag b.natAbs)], 2, true⟩, ⟨some g2, 61, [.bool false, .string ⟨#[]⟩], 2, true⟩]⟩ _
 refine at_seq (at_seq (at_region (r_move rfl rfl rfl (r_neqStr rfl rfl rfl rfl (run_nil (at_tn ?_))))))
 refine at_cond rfl (fun hb1 => ?_) (fun hb1 => ?_)
 ·
  have hy0 : y ≠ 0 := by rw [bne_empty] at hb1; simpa using hb1
  refine at_skip (at_tn (at_block (at_seq (at_seq (at_region (r_move rfl rfl rfl (r_move rfl rfl rfl ?_)))))))
  refine r_pcall [_, _] rfl rfl rfl (c_integer_words _ _) ?_
  refine r_move rfl rfl rfl ?_
  refine r_extract (vs := [_, _, _]) rfl rfl rfl rfl ?_
  refine r_extract (vs := [_, _, _]) rfl rfl rfl rfl ?_
  refine r_extract (vs := [_, _, _]) rfl rfl rfl rfl ?_
  refine r_assign rfl rfl rfl (r_assign rfl rfl rfl (r_assign rfl rfl rfl (run_nil (at_tn (at_seq (at_region (r_move rfl rfl rfl (run_nil (at_tn ?_)))))))))
  refine at_cond rfl (fun hb2 => ?_) (fun hb2 => ?_)
  ·
   obtain ⟨hw1, hw2, hw3, hw4⟩ := words_T hb2
   refine at_know 7 (.int .u64 (x : Nat)) rfl (by rw [if_pos hw3]) ?_
   refine at_know 8 (.int .u64 (y : Nat)) rfl (by rw [if_pos hw4]) ?_
   refine at_seq (at_block ?_)
   refine enterL (nt := 45) (ι := {x : Nat × Nat // Nat.gcd x.1 x.2 = Int.gcd a b ∧ x.1 < 18446744073709551616 ∧ x.2 < 18446744073709551616}) (fun ⟨⟨u, v⟩, hg2, hu, hv⟩ => [(4, .pointer (some ⟨g2, 0, none⟩)), (7, .int .u64 (u : Nat)), (8, .int .u64 (v : Nat))]) (fun ⟨⟨u, v⟩, hg2, hu, hv⟩ => [⟨some g0, 61, [.bool (decide (a < 0)), .string (mag a.natAbs)], 2, true⟩, ⟨some g1, 61, [.bool (decide (b < 0)), .string (mag b.natAbs)], 2, true⟩, ⟨some g2, 61, [.bool false, .string ⟨#[]⟩], 2, true⟩]) (fun ⟨⟨u, v⟩, hg2, hu, hv⟩ => v) ⟨(x, y), hg, hw1, hw2⟩ ⟨rfl, rfl, rfl, trivial⟩ (Weak.refl _) ?_
   rintro ⟨⟨u, v⟩, hg2, hu, hv⟩
   show At _ ⟨45, [(4, .pointer (some ⟨g2, 0, none⟩)), (7, .int .u64 (u : Nat)), (8, .int .u64 (v : Nat))], [⟨some g0, 61, [.bool (decide (a < 0)), .string (mag a.natAbs)], 2, true⟩, ⟨some g1, 61, [.bool (decide (b < 0)), .string (mag b.natAbs)], 2, true⟩, ⟨some g2, 61, [.bool false, .string ⟨#[]⟩], 2, true⟩]⟩ _
   refine at_seq (at_seq (at_region (r_move rfl rfl rfl (r_cmpInt rfl rfl rfl rfl rfl (run_nil (at_tn ?_))))))
   refine at_cond rfl (fun hb4 => ?_) (fun hb4 => ?_)
   ·
    have hv0 : v ≠ 0 := by have := bne_iff_ne.1 hb4; omega
    refine at_skip (at_tn (at_block ?_))
    refine at_tree [(4, .pointer (some ⟨g2, 0, none⟩)), (7, .int .u64 (v : Nat)), (8, .int .u64 (u % v : Nat))] [⟨some g0, 61, [.bool (decide (a < 0)), .string (mag a.natAbs)], 2, true⟩, ⟨some g1, 61, [.bool (decide (b < 0)), .string (mag b.natAbs)], 2, true⟩, ⟨some g2, 61, [.bool false, .string ⟨#[]⟩], 2, true⟩] mixed ?_ ?_
    ·
     refine t_node [0, 1, 2] (by kernel_rfl) rfl ⟨⟨_, rfl, ?_⟩, ⟨_, rfl, ?_⟩, ⟨_, rfl, ?_⟩, trivial⟩
     ·
      refine r_move rfl rfl rfl (run_nil ?_)
      refine t_node [1, 2] (by kernel_rfl) rfl ⟨⟨_, rfl, ?_⟩, ⟨_, rfl, ?_⟩, trivial⟩
      ·
       refine r_move rfl rfl rfl (run_nil ?_)
       refine t_node [2, 4] (by kernel_rfl) rfl ⟨⟨_, rfl, ?_⟩, ⟨_, rfl, ?_⟩, trivial⟩
       ·
        refine r_move rfl rfl rfl (run_nil ?_)
        refine t_node [3, 4] (by kernel_rfl) rfl ⟨⟨_, rfl, ?_⟩, ⟨_, rfl, ?_⟩, trivial⟩
        ·
         refine r_div (r := ((u % v : Nat) : Int)) rfl rfl rfl rfl (by omega) (congrArg some (rem_n _ _ rfl rfl)) ?_
         refine run_nil ?_
         refine t_node [4] (by kernel_rfl) rfl ⟨⟨_, rfl, ?_⟩, trivial⟩
         ·
          refine r_assign rfl rfl rfl (run_nil ?_)
          refine t_node [5] (by kernel_rfl) rfl ⟨⟨_, rfl, ?_⟩, trivial⟩
          ·
           refine r_assign rfl rfl rfl (run_nil ?_)
           exact ⟨by kernel_rfl, rfl, ⟨rfl, rfl, rfl, trivial⟩, rfl⟩
        ·
         refine r_assign rfl rfl rfl (run_nil ?_)
         refine t_node [3] (by kernel_rfl) rfl ⟨⟨_, rfl, ?_⟩, trivial⟩
         ·
          refine r_div (r := ((u % v : Nat) : Int)) rfl rfl rfl rfl (by omega) (congrArg some (rem_n _ _ rfl rfl)) ?_
          refine run_nil ?_
          refine t_node [5] (by kernel_rfl) rfl ⟨⟨_, rfl, ?_⟩, trivial⟩
          ·
           refine r_assign rfl rfl rfl (run_nil ?_)
           exact ⟨by kernel_rfl, rfl, ⟨rfl, rfl, rfl, trivial⟩, rfl⟩
       ·
        refine r_assign rfl rfl rfl (run_nil ?_)
        refine t_node [2] (by kernel_rfl) rfl ⟨⟨_, rfl, ?_⟩, trivial⟩
        ·
         refine r_move rfl rfl rfl (run_nil ?_)
         refine t_node [3] (by kernel_rfl) rfl ⟨⟨_, rfl, ?_⟩, trivial⟩
         ·
          refine r_div (r := ((u % v : Nat) : Int)) rfl rfl rfl rfl (by omega) (congrArg some (rem_n _ _ rfl rfl)) ?_
          refine run_nil ?_
          refine t_node [5] (by kernel_rfl) rfl ⟨⟨_, rfl, ?_⟩, trivial⟩
          ·
           refine r_assign rfl rfl rfl (run_nil ?_)
           exact ⟨by kernel_rfl, rfl, ⟨rfl, rfl, rfl, trivial⟩, rfl⟩
      ·
       refine r_move rfl rfl rfl (run_nil ?_)
       refine t_node [1] (by kernel_rfl) rfl ⟨⟨_, rfl, ?_⟩, trivial⟩
       ·
        refine r_move rfl rfl rfl (run_nil ?_)
        refine t_node [3, 4] (by kernel_rfl) rfl ⟨⟨_, rfl, ?_⟩, ⟨_, rfl, ?_⟩, trivial⟩
        ·
         refine r_div (r := ((u % v : Nat) : Int)) rfl rfl rfl rfl (by omega) (congrArg some (rem_n _ _ rfl rfl)) ?_
         refine run_nil ?_
         refine t_node [4] (by kernel_rfl) rfl ⟨⟨_, rfl, ?_⟩, trivial⟩
         ·
          refine r_assign rfl rfl rfl (run_nil ?_)
          refine t_node [5] (by kernel_rfl) rfl ⟨⟨_, rfl, ?_⟩, trivial⟩
          ·
           refine r_assign rfl rfl rfl (run_nil ?_)
           exact ⟨by kernel_rfl, rfl, ⟨rfl, rfl, rfl, trivial⟩, rfl⟩
        ·
         refine r_assign rfl rfl rfl (run_nil ?_)
         refine t_node [3] (by kernel_rfl) rfl ⟨⟨_, rfl, ?_⟩, trivial⟩
         ·
          refine r_div (r := ((u % v : Nat) : Int)) rfl rfl rfl rfl (by omega) (congrArg some (rem_n _ _ rfl rfl)) ?_
          refine run_nil ?_
          refine t_node [5] (by kernel_rfl) rfl ⟨⟨_, rfl, ?_⟩, trivial⟩
          ·
           refine r_assign rfl rfl rfl (run_nil ?_)
           exact ⟨by kernel_rfl, rfl, ⟨rfl, rfl, rfl, trivial⟩, rfl⟩
     ·
      refine r_move rfl rfl rfl (run_nil ?_)
      refine t_node [0, 2] (by kernel_rfl) rfl ⟨⟨_, rfl, ?_⟩, ⟨_, rfl, ?_⟩, trivial⟩
      ·
       refine r_move rfl rfl rfl (run_nil ?_)
       refine t_node [2, 4] (by kernel_rfl) rfl ⟨⟨_, rfl, ?_⟩, ⟨_, rfl, ?_⟩, trivial⟩
       ·
        refine r_move rfl rfl rfl (run_nil ?_)
        refine t_node [3, 4] (by kernel_rfl) rfl ⟨⟨_, rfl, ?_⟩, ⟨_, rfl, ?_⟩, trivial⟩
        ·
         refine r_div (r := ((u % v : Nat) : Int)) rfl rfl rfl rfl (by omega) (congrArg some (rem_n _ _ rfl rfl)) ?_
         refine run_nil ?_
         refine t_node [4] (by kernel_rfl) rfl ⟨⟨_, rfl, ?_⟩, trivial⟩
         ·
          refine r_assign rfl rfl rfl (run_nil ?_)
          refine t_node [5] (by kernel_rfl) rfl ⟨⟨_, rfl, ?_⟩, trivial⟩
          ·
           refine r_assign rfl rfl rfl (run_nil ?_)
           exact ⟨by kernel_rfl, rfl, ⟨rfl, rfl, rfl, trivial⟩, rfl⟩
        ·
         refine r_assign rfl rfl rfl (run_nil ?_)
         refine t_node [3] (by kernel_rfl) rfl ⟨⟨_, rfl, ?_⟩, trivial⟩
         ·
          refine r_div (r := ((u % v : Nat) : Int)) rfl rfl rfl rfl (by omega) (congrArg some (rem_n _ _ rfl rfl)) ?_
          refine run_nil ?_
          refine t_node [5] (by kernel_rfl) rfl ⟨⟨_, rfl, ?_⟩, trivial⟩
          ·
           refine r_assign rfl rfl rfl (run_nil ?_)
           exact ⟨by kernel_rfl, rfl, ⟨rfl, rfl, rfl, trivial⟩, rfl⟩
       ·
        refine r_assign rfl rfl rfl (run_nil ?_)
        refine t_node [2] (by kernel_rfl) rfl ⟨⟨_, rfl, ?_⟩, trivial⟩
        ·
         refine r_move rfl rfl rfl (run_nil ?_)
         refine t_node [3] (by kernel_rfl) rfl ⟨⟨_, rfl, ?_⟩, trivial⟩
         ·
          refine r_div (r := ((u % v : Nat) : Int)) rfl rfl rfl rfl (by omega) (congrArg some (rem_n _ _ rfl rfl)) ?_
          refine run_nil ?_
          refine t_node [5] (by kernel_rfl) rfl ⟨⟨_, rfl, ?_⟩, trivial⟩
          ·
           refine r_assign rfl rfl rfl (run_nil ?_)
           exact ⟨by kernel_rfl, rfl, ⟨rfl, rfl, rfl, trivial⟩, rfl⟩
      ·
       refine r_move rfl rfl rfl (run_nil ?_)
       refine t_node [0, 3] (by kernel_rfl) rfl ⟨⟨_, rfl, ?_⟩, ⟨_, rfl, ?_⟩, trivial⟩
       ·
        refine r_move rfl rfl rfl (run_nil ?_)
        refine t_node [3, 4] (by kernel_rfl) rfl ⟨⟨_, rfl, ?_⟩, ⟨_, rfl, ?_⟩, trivial⟩
        ·
         refine r_div (r := ((u % v : Nat) : Int)) rfl rfl rfl rfl (by omega) (congrArg some (rem_n _ _ rfl rfl)) ?_
         refine run_nil ?_
         refine t_node [4] (by kernel_rfl) rfl ⟨⟨_, rfl, ?_⟩, trivial⟩
         ·
          refine r_assign rfl rfl rfl (run_nil ?_)
          refine t_node [5] (by kernel_rfl) rfl ⟨⟨_, rfl, ?_⟩, trivial⟩
          ·
           refine r_assign rfl rfl rfl (run_nil ?_)
           exact ⟨by kernel_rfl, rfl, ⟨rfl, rfl, rfl, trivial⟩, rfl⟩
        ·
         refine r_assign rfl rfl rfl (run_nil ?_)
         refine t_node [3] (by kernel_rfl) rfl ⟨⟨_, rfl, ?_⟩, trivial⟩
         ·
          refine r_div (r := ((u % v : Nat) : Int)) rfl rfl rfl rfl (by omega) (congrArg some (rem_n _ _ rfl rfl)) ?_
          refine run_nil ?_
          refine t_node [5] (by kernel_rfl) rfl ⟨⟨_, rfl, ?_⟩, trivial⟩
          ·
           refine r_assign rfl rfl rfl (run_nil ?_)
           exact ⟨by kernel_rfl, rfl, ⟨rfl, rfl, rfl, trivial⟩, rfl⟩
       ·
        refine r_div (r := ((u % v : Nat) : Int)) rfl rfl rfl rfl (by omega) (congrArg some (rem_n _ _ rfl rfl)) ?_
        refine run_nil ?_
        refine t_node [0] (by kernel_rfl) rfl ⟨⟨_, rfl, ?_⟩, trivial⟩
        ·
         refine r_move rfl rfl rfl (run_nil ?_)
         refine t_node [4] (by kernel_rfl) rfl ⟨⟨_, rfl, ?_⟩, trivial⟩
         ·
          refine r_assign rfl rfl rfl (run_nil ?_)
          refine t_node [5] (by kernel_rfl) rfl ⟨⟨_, rfl, ?_⟩, trivial⟩
          ·
           refine r_assign rfl rfl rfl (run_nil ?_)
           exact ⟨by kernel_rfl, rfl, ⟨rfl, rfl, rfl, trivial⟩, rfl⟩
     ·
      refine r_move rfl rfl rfl (run_nil ?_)
      refine t_node [0, 1] (by kernel_rfl) rfl ⟨⟨_, rfl, ?_⟩, ⟨_, rfl, ?_⟩, trivial⟩
      ·
       refine r_move rfl rfl rfl (run_nil ?_)
       refine t_node [1] (by kernel_rfl) rfl ⟨⟨_, rfl, ?_⟩, trivial⟩
       ·
        refine r_move rfl rfl rfl (run_nil ?_)
        refine t_node [3, 4] (by kernel_rfl) rfl ⟨⟨_, rfl, ?_⟩, ⟨_, rfl, ?_⟩, trivial⟩
        ·
         refine r_div (r := ((u % v : Nat) : Int)) rfl rfl rfl rfl (by omega) (congrArg some (rem_n _ _ rfl rfl)) ?_
         refine run_nil ?_
         refine t_node [4] (by kernel_rfl) rfl ⟨⟨_, rfl, ?_⟩, trivial⟩
         ·
          refine r_assign rfl rfl rfl (run_nil ?_)
          refine t_node [5] (by kernel_rfl) rfl ⟨⟨_, rfl, ?_⟩, trivial⟩
          ·
           refine r_assign rfl rfl rfl (run_nil ?_)
           exact ⟨by kernel_rfl, rfl, ⟨rfl, rfl, rfl, trivial⟩, rfl⟩
        ·
         refine r_assign rfl rfl rfl (run_nil ?_)
         refine t_node [3] (by kernel_rfl) rfl ⟨⟨_, rfl, ?_⟩, trivial⟩
         ·
          refine r_div (r := ((u % v : Nat) : Int)) rfl rfl rfl rfl (by omega) (congrArg some (rem_n _ _ rfl rfl)) ?_
          refine run_nil ?_
          refine t_node [5] (by kernel_rfl) rfl ⟨⟨_, rfl, ?_⟩, trivial⟩
          ·
           refine r_assign rfl rfl rfl (run_nil ?_)
           exact ⟨by kernel_rfl, rfl, ⟨rfl, rfl, rfl, trivial⟩, rfl⟩
      ·
       refine r_move rfl rfl rfl (run_nil ?_)
       refine t_node [0, 3] (by kernel_rfl) rfl ⟨⟨_, rfl, ?_⟩, ⟨_, rfl, ?_⟩, trivial⟩
       ·
        refine r_move rfl rfl rfl (run_nil ?_)
        refine t_node [3, 4] (by kernel_rfl) rfl ⟨⟨_, rfl, ?_⟩, ⟨_, rfl, ?_⟩, trivial⟩
        ·
         refine r_div (r := ((u % v : Nat) : Int)) rfl rfl rfl rfl (by omega) (congrArg some (rem_n _ _ rfl rfl)) ?_
         refine run_nil ?_
         refine t_node [4] (by kernel_rfl) rfl ⟨⟨_, rfl, ?_⟩, trivial⟩
         ·
          refine r_assign rfl rfl rfl (run_nil ?_)
          refine t_node [5] (by kernel_rfl) rfl ⟨⟨_, rfl, ?_⟩, trivial⟩
          ·
           refine r_assign rfl rfl rfl (run_nil ?_)
           exact ⟨by kernel_rfl, rfl, ⟨rfl, rfl, rfl, trivial⟩, rfl⟩
        ·
         refine r_assign rfl rfl rfl (run_nil ?_)
         refine t_node [3] (by kernel_rfl) rfl ⟨⟨_, rfl, ?_⟩, trivial⟩
         ·
          refine r_div (r := ((u % v : Nat) : Int)) rfl rfl rfl rfl (by omega) (congrArg some (rem_n _ _ rfl rfl)) ?_
          refine run_nil ?_
          refine t_node [5] (by kernel_rfl) rfl ⟨⟨_, rfl, ?_⟩, trivial⟩
          ·
           refine r_assign rfl rfl rfl (run_nil ?_)
           exact ⟨by kernel_rfl, rfl, ⟨rfl, rfl, rfl, trivial⟩, rfl⟩
       ·
        refine r_div (r := ((u % v : Nat) : Int)) rfl rfl rfl rfl (by omega) (congrArg some (rem_n _ _ rfl rfl)) ?_
        refine run_nil ?_
        refine t_node [0] (by kernel_rfl) rfl ⟨⟨_, rfl, ?_⟩, trivial⟩
        ·
         refine r_move rfl rfl rfl (run_nil ?_)
         refine t_node [4] (by kernel_rfl) rfl ⟨⟨_, rfl, ?_⟩, trivial⟩
         ·
          refine r_assign rfl rfl rfl (run_nil ?_)
          refine t_node [5] (by kernel_rfl) rfl ⟨⟨_, rfl, ?_⟩, trivial⟩
          ·
           refine r_assign rfl rfl rfl (run_nil ?_)
           exact ⟨by kernel_rfl, rfl, ⟨rfl, rfl, rfl, trivial⟩, rfl⟩
    refine at_bn (at_tn ?_)
    exact nextL ⟨(v, u % v), by rw [← hg2]; exact gcd_step u v, hv, Nat.lt_of_le_of_lt (Nat.mod_le _ _) hu⟩ (Nat.mod_lt _ (Nat.pos_of_ne_zero hv0)) ⟨rfl, rfl, rfl, trivial⟩ (Weak.refl _)
   ·
    have hv0 : v = 0 := by have := of_bne_f hb4; omega
    subst hv0
    rw [Nat.gcd_zero_right] at hg2
    refine at_exit (at_te (at_te (at_be (at_tn (at_seq (at_region (r_move rfl rfl rfl ?_)))))))
    refine r_pcall [_] rfl rfl rfl (c_integer_magnitude _ hu) ?_
    refine r_pcall [_, _] rfl rfl rfl (c_integer_made _ _) ?_
    refine r_store rfl 2 0 [_, _, ⟨some g2, 61, _, 2, true⟩] [_, _] rfl rfl rfl rfl ti61 rfl rfl rfl rfl rfl ?_
    refine run_nil (at_tn (at_ret (at_tr (at_br (at_tr (at_br (at_tr ?_)))))))
    refine at_end1 rfl (res_cell 2 rfl rfl ti61 (vs := [_, _]) rfl rfl (Nat.le_of_ble_eq_true rfl) rfl) (fun w hL => ⟨?_, hL.below⟩)
    exact congrArg (fun z => Ending.returned (I z)) (gcd_fin hg2)
  ·
   refine at_skip (at_tn (at_seq (at_region (r_move rfl rfl rfl (r_move rfl rfl rfl ?_)))))
   refine r_pcall [_, _] rfl rfl rfl (c_integer_div _ _ hx hy hy0) ?_
   refine r_move rfl rfl rfl ?_
   refine r_extract (vs := [_, _]) rfl rfl rfl rfl ?_
   refine r_extract (vs := [_, _]) rfl rfl rfl rfl ?_
   refine r_assign rfl rfl rfl (r_assign rfl rfl rfl (run_nil (at_tn (at_region (r_move rfl rfl rfl (r_move rfl rfl rfl (r_assign rfl rfl rfl (r_assign rfl rfl rfl (run_nil (at_bn (at_tn ?_)))))))))))
   exact nextL ⟨(y, x % y), by rw [← hg]; exact gcd_step x y, hy, Nat.le_trans (nb_mono (Nat.mod_le _ _)) hx⟩ (Nat.mod_lt _ (Nat.pos_of_ne_zero hy0)) ⟨rfl, rfl, rfl, trivial⟩ (Weak.refl _)
 ·
  have hy0 : y = 0 := by rw [bne_empty] at hb1; simpa using hb1
  subst hy0
  rw [Nat.gcd_zero_right] at hg
  refine at_exit (at_te (at_te (at_be (at_tn (at_seq (at_region (r_move rfl rfl rfl ?_)))))))
  refine r_pcall [_, _] rfl rfl rfl (c_integer_made _ _) ?_
  refine r_store rfl 2 0 [_, _, ⟨some g2, 61, _, 2, true⟩] [_, _] rfl rfl rfl rfl ti61 rfl rfl rfl rfl rfl ?_
  refine run_nil (at_tn (at_ret ?_))
  refine at_end1 rfl (res_cell 2 rfl rfl ti61 (vs := [_, _]) rfl rfl (Nat.le_of_ble_eq_true rfl) rfl) (fun w hL => ⟨?_, hL.below⟩)
  exact congrArg (fun z => Ending.returned (I z)) (gcd_fin hg)
end Go.Proofs.YtncogghlhlnmaaaGreatDoor
set_option linter.unusedVariables false
namespace Go.Proofs.YtncogghlhlnmaaaGreatDoor
open Go Go.RowKit Go.Via
set_option maxRecDepth 20000 in
theorem c_ref02_trim (l : List Nat) (hl : ∀ d ∈ l, d < 256) (hn : l.length ≤ 1073741824) {len : Nat} (hlen : l.length = len) (x : SR len) : SCall Tryz.prog 81 [⟨x.b, 3, NV .i64 l, x.n, false⟩] [x.v] Unit (fun _ => slv x.b 0 (digs 256 (val 256 l)).length x.cap) (fun _ => []) := by
 refine ⟨by kernel_rfl, fun w hL0 => ?_⟩
 subst hlen
 refine calls_at (args := [x.v]) Tryz.func81 rfl (Nat.le_of_ble_eq_true rfl) hL0 ?_
 show At w ⟨21, [(0, x.v)], [⟨x.b, 3, NV .i64 l, x.n, false⟩]⟩ _
 refine at_seq (at_region (r_assign rfl rfl rfl (run_nil (at_tn (at_seq (at_region (r_move rfl rfl rfl (r_lenS u33 rfl rfl rfl (r_assign rfl rfl rfl (run_nil (at_tn (at_seq (at_block ?_)))))))))))))
 refine enterL (nt := 21) (ι := {m : Nat // m ≤ l.length ∧ val 256 (l.take m) = val 256 l}) (fun ⟨m, hm, hv⟩ => [(0, x.v), (3, .int .i64 (m : Nat))]) (fun ⟨m, hm, hv⟩ => [⟨x.b, 3, NV .i64 l, x.n, false⟩]) (fun ⟨m, hm, hv⟩ => m) ⟨l.length, Nat.le_refl _, by rw [List.take_of_length_le (Nat.le_refl _)]⟩ ⟨rfl, rfl, trivial⟩ (Weak.refl _) ?_
 rintro ⟨m, hm, hv⟩
 show At _ ⟨21, [(0, x.v), (3, .int .i64 (m : Nat))], [⟨x.b, 3, NV .i64 l, x.n, false⟩]⟩ _
 refine at_seq (at_seq (at_region (r_move rfl rfl rfl (r_cmpInt rfl rfl rfl rfl rfl (r_move rfl rfl rfl ?_)))))
 refine r_split 8 rfl (fun hb1 => ?_) (fun hb1 => ?_)
 ·
  have h0 : 0 < m := (by have := of_decide_eq_true hb1; omega)
  refine r_move rfl rfl rfl (r_move rfl rfl rfl ?_)
  refine r_arith (r := ((m - 1 : Nat) : Int)) rfl rfl rfl rfl (congrArg some (wi (by omega) (by omega) (by omega))) ?_
  refine r_indexAddr 0 (m - 1) u33 ti3 rfl rfl rfl rfl rfl (by omega) (by omega) (NV_ne (by omega)) (by show 0 + Int.toNat _ * 1 = _; omega) ?_
  refine r_load1 0 (m - 1) ti3 rfl rfl rfl rfl (NV_get (l := l) (List.getElem?_eq_getElem (by omega))) ?_
  refine r_cmpInt rfl rfl rfl rfl rfl (r_pickT rfl rfl rfl rfl (run_nil (at_tn ?_)))
  refine at_cond rfl (fun hb2 => ?_) (fun hb2 => ?_)
  ·
   have hz : l[m - 1] = 0 := (by have := eq_of_beq hb2; omega)
   refine at_skip (at_tn (at_block (at_region (r_move rfl rfl rfl ?_))))
   refine r_arith (r := ((m - 1 : Nat) : Int)) rfl rfl rfl rfl (congrArg some (wi (by omega) (by omega) (by omega))) ?_
   refine r_assign rfl rfl rfl (run_nil (at_bn (at_tn ?_)))
   exact nextL ⟨m - 1, by omega, trim_step' h0 hm hv (by omega) hz⟩ (by simp only []; omega) ⟨rfl, rfl, trivial⟩ (Weak.refl _)
  ·
   have hz : l[m - 1] ≠ 0 := (by have := ne_of_beq_false hb2; omega)
   refine at_exit (at_te (at_te (at_be (at_tn (at_seq (at_region (r_move rfl rfl rfl (r_move rfl rfl rfl ?_))))))))
   refine r_sliceH m u33 ti3 rfl rfl rfl rfl (by omega) (by have := x.h; omega) (by omega) ?_
   refine r_assign rfl rfl rfl (run_nil (at_tn (at_ret ?_)))
   refine at_end1 rfl (res_tmp rfl) (fun w hL => ⟨(), ?_, hL.picks [] trivial rfl rfl⟩)
   rw [trim_len (B := 256) (by decide) hl hm hv (.inr ⟨by omega, hz⟩)]
 ·
  have h0 : m = 0 := (by have := of_decide_eq_false hb1; omega)
  refine r_no rfl rfl rfl (r_no rfl rfl rfl (r_no rfl rfl rfl (r_no rfl rfl rfl (r_no rfl rfl rfl (r_no rfl rfl rfl (r_pickF rfl rfl rfl rfl (run_nil (at_tn (at_condF rfl (at_exit (at_te (at_te (at_be (at_tn (at_seq (at_region (r_move rfl rfl rfl (r_move rfl rfl rfl ?_))))))))))))))))))
  refine r_sliceH m u33 ti3 rfl rfl rfl rfl (by omega) (by have := x.h; omega) (by omega) ?_
  refine r_assign rfl rfl rfl (run_nil (at_tn (at_ret ?_)))
  refine at_end1 rfl (res_tmp rfl) (fun w hL => ⟨(), ?_, hL.picks [] trivial rfl rfl⟩)
  rw [trim_len (B := 256) (by decide) hl hm hv (.inl h0)]
set_option maxRecDepth 20000 in
theorem c_ref02_compare (a b : Nat) (ha : nb a ≤ 1073741824) (x : SR (nb a)) (y : SR (nb b)) : SCall Tryz.prog 68 [⟨x.b, 3, NV .i64 (D8 a), x.n, false⟩, ⟨y.b, 3, NV .i64 (D8 b), y.n, false⟩] [x.v, y.v] Unit (fun _ => .int .i64 (cmpN a b)) (fun _ => []) := by
 refine ⟨by kernel_rfl, fun w hL0 => ?_⟩
 refine calls_at (args := [x.v, y.v]) Tryz.func68 rfl (Nat.le_of_ble_eq_true rfl) hL0 ?_
 show At w ⟨41, [(0, x.v), (1, y.v)], [⟨x.b, 3, NV .i64 (D8 a), x.n, false⟩, ⟨y.b, 3, NV .i64 (D8 b), y.n, false⟩]⟩ _
 refine at_seq (at_region (r_assign rfl rfl rfl (run_nil (at_tn (at_seq (at_seq (at_region (r_move rfl rfl rfl (r_lenS u33 rfl rfl rfl (r_move rfl rfl rfl (r_lenS u33 rfl rfl rfl (r_cmpInt rfl rfl rfl rfl rfl (run_nil (at_tn ?_))))))))))))))
 refine at_cond rfl (fun hb0 => ?_) (fun hb0 => ?_)
 ·
  have hl : nb a ≠ nb b := by have := bne_iff_ne.1 hb0; omega
  refine at_seq (at_seq (at_region (r_move rfl rfl rfl (r_lenS u33 rfl rfl rfl (r_move rfl rfl rfl (r_lenS u33 rfl rfl rfl (r_cmpInt rfl rfl rfl rfl rfl (run_nil (at_tn ?_)))))))))
  refine at_cond rfl (fun hb1 => ?_) (fun hb1 => ?_)
  ·
   have h1 : nb a < nb b := (by have := of_decide_eq_true hb1; omega)
   refine at_seq (at_region (r_assign rfl rfl rfl (run_nil (at_tn (at_ret (at_tr (at_tr ?_)))))))
   refine at_end1 rfl (res_tmp rfl) (fun w hL => ⟨(), ?_, hL.picks [] trivial rfl rfl⟩)
   rw [cmp_len_lt h1]
  ·
   have h1 : nb b < nb a := (by have := of_decide_eq_false hb1; omega)
   refine at_skip (at_tn (at_seq (at_region (r_assign rfl rfl rfl (run_nil (at_tn (at_ret (at_tr ?_))))))))
   refine at_end1 rfl (res_tmp rfl) (fun w hL => ⟨(), ?_, hL.picks [] trivial rfl rfl⟩)
   rw [cmp_len_gt h1]
 ·
  have hl : nb a = nb b := by have := of_bne_f hb0; omega
  refine at_skip (at_tn (at_seq (at_seq (at_region (r_move rfl rfl rfl (r_lenS u33 rfl rfl rfl ?_))))))
  refine r_arith (r := ((nb a : Nat) : Int) - 1) rfl rfl rfl rfl (congrArg some (wi (by omega) (by omega) (by omega))) ?_
  refine r_assign rfl rfl rfl (run_nil (at_tn (at_block ?_)))
  refine enterL (nt := 41) (ι := {p : Nat // p ≤ nb a ∧ a / 256 ^ p = b / 256 ^ p}) (fun ⟨p, hp, he⟩ => [(0, x.v), (1, y.v), (5, .int .i64 ((p : Nat) - 1))]) (fun ⟨p, hp, he⟩ => [⟨x.b, 3, NV .i64 (D8 a), x.n, false⟩, ⟨y.b, 3, NV .i64 (D8 b), y.n, false⟩]) (fun ⟨p, hp, he⟩ => p) ⟨nb a, Nat.le_refl _, cmp_top hl⟩ ⟨rfl, rfl, rfl, trivial⟩ (Weak.refl _) ?_
  rintro ⟨p, hp, he⟩
  show At _ ⟨41, [(0, x.v), (1, y.v), (5, .int .i64 ((p : Nat) - 1))], [⟨x.b, 3, NV .i64 (D8 a), x.n, false⟩, ⟨y.b, 3, NV .i64 (D8 b), y.n, false⟩]⟩ _
  refine at_seq (at_seq (at_region (r_move rfl rfl rfl (r_cmpInt rfl rfl rfl rfl rfl (run_nil (at_tn ?_))))))
  refine at_cond rfl (fun hb2 => ?_) (fun hb2 => ?_)
  ·
   obtain ⟨q, rfl⟩ : ∃ q, p = q + 1 := ⟨p - 1, by have := of_decide_eq_true hb2; omega⟩
   refine at_know 5 (.int .i64 (q : Nat)) rfl (congrArg (Value.int .i64) (by omega)) ?_
   refine at_skip (at_tn (at_seq (at_block (at_seq (at_seq ?_)))))
   refine at_drawn (l' := [⟨_,_,_,_,_,_⟩, ⟨_,_,_,_,_,_⟩, ⟨_,_,_,_,_,_⟩, ⟨_,_,_,_,_,_⟩, ⟨_,_,_,_,_,_⟩, ⟨_,_,_,_,_,_⟩, ⟨_,_,_,_,_,_⟩, ⟨_,_,_,_,_,_⟩, ⟨_,_,_,_,_,_⟩]) [] [0, 1, 2, 3, 4, 5, 6, 7, 8] mixed (by kernel_rfl) rfl (by kernel_rfl) ?_
   refine r_move rfl rfl rfl (r_move rfl rfl rfl ?_)
   refine r_indexAddr 0 (q) u33 ti3 rfl rfl rfl rfl rfl (by omega) (by omega) (NV_ne (by rw [D8_length]; omega)) (by show 0 + Int.toNat _ * 1 = _; omega) ?_
   refine r_load1 0 (q) ti3 rfl rfl rfl rfl (NV_get (D8_get (by omega))) ?_
   refine r_move rfl rfl rfl (r_move rfl rfl rfl ?_)
   refine r_indexAddr 1 (q) u33 ti3 rfl rfl rfl rfl rfl (by omega) (by omega) (NV_ne (by rw [D8_length]; omega)) (by show 0 + Int.toNat _ * 1 = _; omega) ?_
   refine r_load1 1 (q) ti3 rfl rfl rfl rfl (NV_get (D8_get (by omega))) ?_
   refine r_cmpInt rfl rfl rfl rfl rfl (run_nil (at_tn ?_))
   refine at_cond rfl (fun hb3 => ?_) (fun hb3 => ?_)
   ·
    have h1 : a / 256 ^ q % 256 < b / 256 ^ q % 256 := (by have := of_decide_eq_true hb3; omega)
    refine at_seq (at_region (r_assign rfl rfl rfl (run_nil (at_tn (at_ret (at_tr (at_br (at_tr (at_tr (at_br (at_tr ?_)))))))))))
    refine at_end1 rfl (res_tmp rfl) (fun w hL => ⟨(), ?_, hL.picks [] trivial rfl rfl⟩)
    rw [cmp_dig_lt he h1]
   ·
    have h1 : ¬ a / 256 ^ q % 256 < b / 256 ^ q % 256 := (by have := of_decide_eq_false hb3; omega)
    refine at_skip (at_tn (at_seq ?_))
    refine at_drawn (l' := [⟨_,_,_,_,_,_⟩, ⟨_,_,_,_,_,_⟩, ⟨_,_,_,_,_,_⟩, ⟨_,_,_,_,_,_⟩, ⟨_,_,_,_,_,_⟩, ⟨_,_,_,_,_,_⟩, ⟨_,_,_,_,_,_⟩, ⟨_,_,_,_,_,_⟩, ⟨_,_,_,_,_,_⟩]) [] [0, 1, 2, 3, 4, 5, 6, 7, 8] mixed (by kernel_rfl) rfl (by kernel_rfl) ?_
    refine r_move rfl rfl rfl (r_move rfl rfl rfl ?_)
    refine r_indexAddr 0 (q) u33 ti3 rfl rfl rfl rfl rfl (by omega) (by omega) (NV_ne (by rw [D8_length]; omega)) (by show 0 + Int.toNat _ * 1 = _; omega) ?_
    refine r_load1 0 (q) ti3 rfl rfl rfl rfl (NV_get (D8_get (by omega))) ?_
    refine r_move rfl rfl rfl (r_move rfl rfl rfl ?_)
    refine r_indexAddr 1 (q) u33 ti3 rfl rfl rfl rfl rfl (by omega) (by omega) (NV_ne (by rw [D8_length]; omega)) (by show 0 + Int.toNat _ * 1 = _; omega) ?_
    refine r_load1 1 (q) ti3 rfl rfl rfl rfl (NV_get (D8_get (by omega))) ?_
    refine r_cmpInt rfl rfl rfl rfl rfl (run_nil (at_tn ?_))
    refine at_cond rfl (fun hb4 => ?_) (fun hb4 => ?_)
    ·
     have h2 : b / 256 ^ q % 256 < a / 256 ^ q % 256 := (by have := of_decide_eq_true hb4; omega)
     refine at_seq (at_region (r_assign rfl rfl rfl (run_nil (at_tn (at_ret (at_br (at_tr (at_tr (at_br (at_tr ?_))))))))))
     refine at_end1 rfl (res_tmp rfl) (fun w hL => ⟨(), ?_, hL.picks [] trivial rfl rfl⟩)
     rw [cmp_dig_gt he h2]
    ·
     have h2 : ¬ b / 256 ^ q % 256 < a / 256 ^ q % 256 := (by have := of_decide_eq_false hb4; omega)
     refine at_skip (at_bn (at_tn (at_region (r_move rfl rfl rfl ?_))))
     refine r_arith (r := ((q : Nat) : Int) - 1) rfl rfl rfl rfl (congrArg some (wi (by omega) (by omega) (by omega))) ?_
     refine r_assign rfl rfl rfl (run_nil (at_tn ?_))
     exact nextL ⟨q, by omega, cmp_dig_eq he h1 h2⟩ (by simp only []; omega) ⟨rfl, rfl, rfl, trivial⟩ (Weak.refl _)
  ·
   have hp0 : p = 0 := by have := of_decide_eq_false hb2; omega
   subst hp0
   refine at_exit (at_te (at_te (at_be (at_tn (at_seq (at_region (r_assign rfl rfl rfl (run_nil (at_tn (at_ret ?_))))))))))
   refine at_end1 rfl (res_tmp rfl) (fun w hL => ⟨(), ?_, hL.picks [] trivial rfl rfl⟩)
   rw [cmp_end he]
set_option maxRecDepth 20000 in
theorem c_ref02_small (n : Nat) (hn : nb n ≤ 1073741824) (x : SR (nb n)) : SCall Tryz.prog 100 [⟨x.b, 3, NV .i64 (D8 n), x.n, false⟩] [x.v] Unit (fun _ => .tuple #[.int .i64 (if nb n ≤ 7 then (n : Int) else 0), .bool (decide (nb n ≤ 7))]) (fun _ => []) := by
 refine ⟨by kernel_rfl, fun w hL0 => ?_⟩
 refine calls_at (args := [x.v]) Tryz.func100 rfl (Nat.le_of_ble_eq_true rfl) hL0 ?_
 show At w ⟨24, [(0, x.v)], [⟨x.b, 3, NV .i64 (D8 n), x.n, false⟩]⟩ _
 refine at_seq (at_region (r_assign rfl rfl rfl (r_assign rfl rfl rfl (run_nil (at_tn (at_seq (at_seq (at_region (r_move rfl rfl rfl (r_lenS u33 rfl rfl rfl (r_cmpInt rfl rfl rfl rfl rfl (run_nil (at_tn ?_)))))))))))))
 refine at_cond rfl (fun hb0 => ?_) (fun hb0 => ?_)
 ·
  have h8 : ¬ nb n ≤ 7 := (by have := of_decide_eq_true hb0; omega)
  refine at_seq (at_region (r_assign rfl rfl rfl (r_assign rfl rfl rfl (run_nil (at_tn (at_ret (at_tr ?_)))))))
  refine at_end2 rfl (res_tmp rfl) (res_tmp rfl) (fun w hL => ⟨(), ?_, hL.picks [] trivial rfl rfl⟩)
  rw [if_neg h8, decide_eq_false h8]
 ·
  have h8 : nb n ≤ 7 := (by have := of_decide_eq_false hb0; omega)
  refine at_skip (at_tn (at_seq (at_region (r_assign rfl rfl rfl (run_nil (at_tn (at_seq (at_seq (at_region (r_move rfl rfl rfl (r_lenS u33 rfl rfl rfl ?_)))))))))))
  refine r_arith (r := ((nb n : Nat) : Int) - 1) rfl rfl rfl rfl (congrArg some (wi (by omega) (by omega) (by omega))) ?_
  refine r_assign rfl rfl rfl (run_nil (at_tn (at_block ?_)))
  refine enterL (nt := 24) (ι := {p : Nat // p ≤ nb n}) (fun ⟨p, hp⟩ => [(0, x.v), (4, .int .i64 (n / 256 ^ p : Nat)), (5, .int .i64 ((p : Nat) - 1))]) (fun ⟨p, hp⟩ => [⟨x.b, 3, NV .i64 (D8 n), x.n, false⟩]) (fun ⟨p, hp⟩ => p) ⟨nb n, Nat.le_refl _⟩ ⟨rfl, (look_val rfl (by rw [Nat.div_eq_of_lt (lt_nb n)]; rfl)), rfl, trivial⟩ (Weak.refl _) ?_
  rintro ⟨p, hp⟩
  show At _ ⟨24, [(0, x.v), (4, .int .i64 (n / 256 ^ p : Nat)), (5, .int .i64 ((p : Nat) - 1))], [⟨x.b, 3, NV .i64 (D8 n), x.n, false⟩]⟩ _
  refine at_seq (at_seq (at_region (r_move rfl rfl rfl (r_cmpInt rfl rfl rfl rfl rfl (run_nil (at_tn ?_))))))
  refine at_cond rfl (fun hb2 => ?_) (fun hb2 => ?_)
  ·
   obtain ⟨q, rfl⟩ : ∃ q, p = q + 1 := ⟨p - 1, by have := of_decide_eq_true hb2; omega⟩
   refine at_know 5 (.int .i64 (q : Nat)) rfl (congrArg (Value.int .i64) (by omega)) ?_
   have hs1 := small_lt (q := q) h8
   have hs2 := step256 n q
   refine at_skip (at_tn (at_seq (at_block (at_region (r_move rfl rfl rfl ?_)))))
   refine r_arith (r := ((n / 256 ^ (q + 1) * 256 : Nat) : Int)) rfl rfl rfl rfl (congrArg some (wi (by omega) (by omega) (by omega))) ?_
   refine r_move rfl rfl rfl (r_move rfl rfl rfl ?_)
   refine r_indexAddr 0 (q) u33 ti3 rfl rfl rfl rfl rfl (by omega) (by omega) (NV_ne (by rw [D8_length]; omega)) (by show 0 + Int.toNat _ * 1 = _; omega) ?_
   refine r_load1 0 (q) ti3 rfl rfl rfl rfl (NV_get (D8_get (by omega))) ?_
   refine r_arith (r := ((n / 256 ^ q : Nat) : Int)) rfl rfl rfl rfl (congrArg some (wi (by omega) (by omega) (by omega))) ?_
   refine r_assign rfl rfl rfl (run_nil (at_bn (at_tn (at_region (r_move rfl rfl rfl ?_)))))
   refine r_arith (r := ((q : Nat) : Int) - 1) rfl rfl rfl rfl (congrArg some (wi (by omega) (by omega) (by omega))) ?_
   refine r_assign rfl rfl rfl (run_nil (at_tn ?_))
   exact nextL ⟨q, by omega⟩ (by simp only []; omega) ⟨rfl, rfl, rfl, trivial⟩ (Weak.refl _)
  ·
   have hp0 : p = 0 := by have := of_decide_eq_false hb2; omega
   subst hp0
   refine at_exit (at_te (at_te (at_be (at_tn (at_seq (at_region (r_move rfl rfl rfl (r_assign rfl rfl rfl (r_assign rfl rfl rfl (run_nil (at_tn (at_ret ?_))))))))))))
   refine at_end2 rfl (res_tmp rfl) (res_tmp rfl) (fun w hL => ⟨(), ?_, hL.picks [] trivial rfl rfl⟩)
   rw [if_pos h8, decide_eq_true h8]; simp
set_option maxRecDepth 20000 in
theorem c_ref02_large (n : Nat) (hn : n ≤ 9223372036854775807) : SCall Tryz.prog 101 [] [.int .i64 (n : Nat)] (SR (nb n)) SR.v (fun x => [⟨x.b, 3, NV .i64 (D8 n), x.n, true⟩]) := by
 refine ⟨by kernel_rfl, fun w hL0 => ?_⟩
 have hnb : nb n ≤ 8 := nb_le (by omega)
 refine calls_at (args := [.int .i64 (n : Nat)]) Tryz.func101 rfl (Nat.le_of_ble_eq_true rfl) hL0 ?_
 show At w ⟨14, [(0, .int .i64 (n : Nat))], []⟩ _
 refine at_seq (at_region (r_assign rfl rfl rfl (run_nil (at_tn (at_seq (at_region (r_assign rfl rfl rfl (run_nil (at_tn (at_seq (at_block ?_)))))))))))
 refine enterL (nt := 14) (ι := {x : Nat × Option Nat × Nat × Nat // x.1 ≤ nb n ∧ x.1 ≤ x.2.2.2 ∧ x.2.2.2 ≤ x.2.2.1}) (fun ⟨⟨i, ob, oN, oc⟩, hi, h1, h2⟩ => [(0, .int .i64 (n / 256 ^ i : Nat)), (3, slv ob 0 i oc)]) (fun ⟨⟨i, ob, oN, oc⟩, hi, h1, h2⟩ => [⟨ob, 3, NV .i64 (row i (dg8 n)), oN, true⟩]) (fun ⟨⟨i, ob, oN, oc⟩, hi, h1, h2⟩ => nb n - i) ⟨(0, none, 0, 0), Nat.zero_le _, Nat.le_refl _, Nat.le_refl _⟩ ⟨(look_val rfl (by rw [Nat.pow_zero, Nat.div_one])), rfl, trivial⟩ (weak_picks [none] ⟨⟨rfl, rfl, rfl⟩, trivial⟩ rfl rfl) ?_
 rintro ⟨⟨i, ob, oN, oc⟩, hi, h1, h2⟩
 show At _ ⟨14, [(0, .int .i64 (n / 256 ^ i : Nat)), (3, slv ob 0 i oc)], [⟨ob, 3, NV .i64 (row i (dg8 n)), oN, true⟩]⟩ _
 replace hi : i ≤ nb n := hi
 replace h1 : i ≤ oc := h1
 replace h2 : oc ≤ oN := h2
 refine at_seq (at_seq (at_region (r_move rfl rfl rfl (r_cmpInt rfl rfl rfl rfl rfl (run_nil (at_tn ?_))))))
 refine at_cond rfl (fun hb1 => ?_) (fun hb1 => ?_)
 ·
  have hgt : 0 < n / 256 ^ i := by have := of_decide_eq_true hb1; omega
  have hlt := div_le_nb hgt
  have hle : n / 256 ^ i ≤ n := Nat.div_le_self _ _
  refine at_skip (at_tn (at_block (at_seq (at_region (r_move rfl rfl rfl (r_move rfl rfl rfl ?_))))))
  refine r_div (r := ((dg8 n i : Nat) : Int)) rfl rfl rfl rfl (by omega) (congrArg some (rem_n _ 256 rfl rfl)) ?_
  refine r_buildSlice [(0, _)] (fun g => [_, ⟨some g, 3, _, 1, true⟩]) rfl rfl rfl (bs33_1) rfl (fun _ => rfl) (fun g0 => ?_)
  refine q_append (s := 1) (len := i) (n2 := 1) 0 1 (fun r => [⟨some r.g, 3, NV .i64 (row (i + 1) (dg8 n)), r.n, true⟩, ⟨some g0, 3, _, 1, true⟩]) u33 el3 rfl rfl rfl rfl rfl rfl rfl rfl rfl rfl rfl rfl (by rw [NV_length, row_length]; omega) (by omega) (by show oc * 1 ≤ oN; omega) rfl (Go.Via.one_cell _ _) (by omega) (fun r => congrArg (fun c => [(⟨some r.g, 3, c, r.n, true⟩ : Blk), ⟨some g0, 3, _, 1, true⟩]) (NV_snoc _ _ _ _ (rfl))) (fun r => ?_)
  refine r_assign rfl rfl rfl (run_nil (at_tn (at_region (r_move rfl rfl rfl ?_))))
  refine r_div (r := ((n / 256 ^ (i + 1) : Nat) : Int)) rfl rfl rfl rfl (by omega) (congrArg some ((quo_i _ 256 rfl rfl (by omega)).trans (by rw [div256]))) ?_
  refine r_assign rfl rfl rfl (run_nil (at_bn (at_tn ?_)))
  exact nextL ⟨(i + 1, some r.g, r.n, r.cap), hlt, r.h, by have := r.hn; show r.cap ≤ r.n; omega⟩ (by show nb n - (i + 1) < nb n - i; omega) ⟨rfl, rfl, trivial⟩ (weak_picks [some 0] ⟨⟨_, rfl, Blk.le_refl _⟩, trivial⟩ rfl rfl)
 ·
  have hge := nb_of_div (n := n) (i := i) (by have := of_decide_eq_false hb1; have := Nat.zero_le (n / 256 ^ i); omega) hi
  subst hge
  refine at_exit (at_te (at_te (at_be (at_tn (at_seq (at_region (r_move rfl rfl rfl (r_assign rfl rfl rfl (run_nil (at_tn (at_ret ?_)))))))))))
  refine at_end1 rfl (res_tmp rfl) (fun w hL => ⟨⟨ob, oN, oc, h1⟩, rfl, ?_⟩)
  rw [D8_row] at hL; exact hL
set_option maxRecDepth 20000 in
theorem c_ref02_digits (z : Int) (hz : szI z ≤ 1073741824) : SCall Tryz.prog 61 [] [I z] (SR (nb z.natAbs)) SR.v (fun x => [⟨x.b, 3, NV .i64 (D8 z.natAbs), x.n, true⟩]) := by
 refine ⟨by kernel_rfl, fun w hL0 => ?_⟩
 have hz : nb z.natAbs ≤ 1073741824 := hz
 refine calls_at (args := [I z]) Tryz.func61 rfl (Nat.le_of_ble_eq_true rfl) hL0 ?_
 show At w ⟨23, [(0, I z)], []⟩ _
 refine at_seq (at_region ?_)
 refine r_box [_, _] 2 (fun g => [⟨some g, 61, _, 2, true⟩]) rfl rfl rfl rfl rfl (fun _ => rfl) (fun g0 => ?_)
 refine r_assign rfl rfl rfl (run_nil (at_tn (at_seq (at_region (r_assign rfl rfl rfl (run_nil (at_tn (at_seq (at_seq (at_region (r_fieldAddr 0 0 1 rfl rfl rfl rfl rfl ti61 rfl rfl (r_load 0 1 [_] rfl rfl rfl rfl ti9 rfl rfl rfl rfl (r_len rfl u9 rfl rfl ?_)))))))))))))
 refine r_know 7 (.int .i64 (nb z.natAbs : Nat)) rfl (by rw [mag_size]) ?_
 refine r_arith (r := ((nb z.natAbs : Nat) : Int) - 1) rfl rfl rfl rfl (congrArg some (wi (by omega) (by omega) (by omega))) ?_
 refine r_assign rfl rfl rfl (run_nil (at_tn (at_block ?_)))
 refine enterL (nt := 23) (ι := {x : Nat × Option Nat × Nat × Nat // x.1 ≤ nb z.natAbs ∧ x.1 ≤ x.2.2.2 ∧ x.2.2.2 ≤ x.2.2.1}) (fun ⟨⟨k, ob, oN, oc⟩, hk, h1, h2⟩ => [(1, .pointer (some ⟨g0, 0, none⟩)), (3, slv ob 0 k oc), (4, .int .i64 ((nb z.natAbs - k : Nat) - 1))]) (fun ⟨⟨k, ob, oN, oc⟩, hk, h1, h2⟩ => [⟨some g0, 61, [.bool (decide (z < 0)), .string (mag z.natAbs)], 2, true⟩, ⟨ob, 3, NV .i64 (row k (dg8 z.natAbs)), oN, true⟩]) (fun ⟨⟨k, ob, oN, oc⟩, hk, h1, h2⟩ => nb z.natAbs - k) ⟨(0, none, 0, 0), Nat.zero_le _, Nat.le_refl _, Nat.le_refl _⟩ ⟨rfl, rfl, rfl, trivial⟩ (weak_picks [some 0, none] ⟨⟨_, rfl, Blk.le_refl _⟩, ⟨rfl, rfl, rfl⟩, trivial⟩ rfl rfl) ?_
 rintro ⟨⟨k, ob, oN, oc⟩, hk, h1, h2⟩
 show At _ ⟨23, [(1, .pointer (some ⟨g0, 0, none⟩)), (3, slv ob 0 k oc), (4, .int .i64 ((nb z.natAbs - k : Nat) - 1))], [⟨some g0, 61, [.bool (decide (z < 0)), .string (mag z.natAbs)], 2, true⟩, ⟨ob, 3, NV .i64 (row k (dg8 z.natAbs)), oN, true⟩]⟩ _
 replace hk : k ≤ nb z.natAbs := hk
 replace h1 : k ≤ oc := h1
 replace h2 : oc ≤ oN := h2
 refine at_seq (at_seq (at_region (r_move rfl rfl rfl (r_cmpInt rfl rfl rfl rfl rfl (run_nil (at_tn ?_))))))
 refine at_cond rfl (fun hb1 => ?_) (fun hb1 => ?_)
 ·
  have hlt : k < nb z.natAbs := by have := of_decide_eq_true hb1; omega
  refine at_know 4 (.int .i64 (nb z.natAbs - 1 - k : Nat)) rfl (congrArg (Value.int .i64) (by omega)) ?_
  refine at_skip (at_tn (at_seq (at_block (at_region (r_move rfl rfl rfl (r_fieldAddr 0 0 1 rfl rfl rfl rfl rfl ti61 rfl rfl (r_load 0 1 [_] rfl rfl rfl rfl ti9 rfl rfl rfl rfl (r_move rfl rfl rfl ?_))))))))
  refine r_idxS (b := UInt8.ofNat (z.natAbs / 256 ^ k % 256)) (r := ((z.natAbs / 256 ^ k % 256 : Nat) : Int)) u9 rfl rfl rfl rfl (by omega) (mag_at' z.natAbs k hlt) (u8_nat _) ?_
  refine r_conv (r := ((dg8 z.natAbs k : Nat) : Int)) u5 u3 rfl rfl rfl (wi (by have := dg8_lt z.natAbs k; omega) (by have := dg8_lt z.natAbs k; omega) rfl) ?_
  refine r_buildSlice [(0, _)] (fun g => [_, _, ⟨some g, 3, _, 1, true⟩]) rfl rfl rfl (bs33_1) rfl (fun _ => rfl) (fun g1 => ?_)
  refine q_append (s := 1) (len := k) (n2 := 1) 1 2 (fun r => [_, ⟨some r.g, 3, NV .i64 (row (k + 1) (dg8 z.natAbs)), r.n, true⟩, ⟨some g1, 3, _, 1, true⟩]) u33 el3 rfl rfl rfl rfl rfl rfl rfl rfl rfl rfl rfl rfl (by rw [NV_length, row_length]; omega) (by omega) (by show oc * 1 ≤ oN; omega) rfl (Go.Via.one_cell _ _) (by omega) (fun r => congrArg (fun c => [_, (⟨some r.g, 3, c, r.n, true⟩ : Blk), ⟨some g1, 3, _, 1, true⟩]) (NV_snoc _ _ _ _ (rfl))) (fun r => ?_)
  refine r_assign rfl rfl rfl (run_nil (at_bn (at_tn (at_region (r_move rfl rfl rfl ?_)))))
  refine r_arith (r := ((nb z.natAbs - (k + 1) : Nat) : Int) - 1) rfl rfl rfl rfl (congrArg some (wi (by omega) (by omega) (by omega))) ?_
  refine r_assign rfl rfl rfl (run_nil (at_tn ?_))
  exact nextL ⟨(k + 1, some r.g, r.n, r.cap), hlt, r.h, by have := r.hn; show r.cap ≤ r.n; omega⟩ (by show nb z.natAbs - (k + 1) < nb z.natAbs - k; omega) ⟨rfl, rfl, rfl, trivial⟩ (weak_picks [some 0, some 1] ⟨⟨_, rfl, Blk.le_refl _⟩, ⟨_, rfl, Blk.le_refl _⟩, trivial⟩ rfl rfl)
 ·
  have hge : k = nb z.natAbs := by have := of_decide_eq_false hb1; omega
  subst hge
  refine at_exit (at_te (at_te (at_be (at_tn (at_seq (at_region (r_move rfl rfl rfl ?_)))))))
  refine r_scall0 [_] [1] rfl rfl rfl (c_ref02_trim (row (nb z.natAbs) (dg8 z.natAbs)) (row_lt fun j => dg8_lt _ j) (by rw [row_length]; omega) (row_length _ _) ⟨ob, oN, oc, h1⟩) ⟨⟨_, rfl, le_share⟩, trivial⟩ rfl ?_
  refine r_know 22 (slv ob 0 (nb z.natAbs) oc) rfl (by rw [D8_row_trim]) ?_
  refine r_assign rfl rfl rfl (run_nil (at_tn (at_ret ?_)))
  refine at_end1 rfl (res_tmp rfl) (fun w hL => ⟨⟨ob, oN, oc, h1⟩, rfl, ?_⟩)
  rw [D8_row] at hL; exact hL.picks [some 1] ⟨⟨_, rfl, Blk.le_refl _⟩, trivial⟩ rfl rfl
set_option maxRecDepth 20000 in
theorem c_ref02_whole (n : Nat) (neg : Bool) (hn : nb n ≤ 1073741824) (x : SR (nb n)) : SCall Tryz.prog 62 [⟨x.b, 3, NV .i64 (D8 n), x.n, false⟩] [x.v, .bool neg] Unit (fun _ => I (if neg = true then -(n : Int) else (n : Int))) (fun _ => []) := by
 refine ⟨by kernel_rfl, fun w hL0 => ?_⟩
 refine calls_at (args := [x.v, .bool neg]) Tryz.func62 rfl (Nat.le_of_ble_eq_true rfl) hL0 ?_
 show At w ⟨39, [(0, x.v), (1, .bool neg)], [⟨x.b, 3, NV .i64 (D8 n), x.n, false⟩]⟩ _
 refine at_seq (at_region ?_)
 refine r_alloc [_, _] 2 (fun g => [_, ⟨some g, 61, _, 2, true⟩]) rfl rfl z61 rfl rfl (fun _ => rfl) (fun g0 => ?_)
 refine run_nil (at_tn (at_seq (at_region (r_move rfl rfl rfl ?_))))
 refine r_scall0 [_] [0] rfl rfl rfl (c_ref02_trim (D8 n) (D8_lt n) (by rw [D8_length]; omega) (D8_length n) x) ⟨⟨_, rfl, le_share⟩, trivial⟩ rfl ?_
 refine r_know 8 (slv x.b 0 (nb n) x.cap) rfl (by rw [D8_trim_len]) ?_
 refine r_assign rfl rfl rfl (run_nil (at_tn (at_seq (at_region (r_move rfl rfl rfl (r_lenS u33 rfl rfl rfl ?_))))))
 refine q_makeSlice (c := nb n) (NV .u8 (row (nb n) (bytT n (nb n) 0))) (fun g => [_, _, ⟨some g, 5, _, _, true⟩]) u122 el5 rfl rfl rfl rfl rfl rfl (by omega) (by rw [row_congr (g := fun _ => 0) (fun j _ => bytT_zero n _ j), row_zero, NV_replicate]) (fun _ => rfl) (fun g1 => ?_)
 refine r_assign rfl rfl rfl (run_nil (at_tn (at_seq (at_seq (at_region (r_assign rfl rfl rfl (run_nil (at_tn (at_block ?_)))))))))
 refine enterL (nt := 39) (ι := {i : Nat // i ≤ nb n}) (fun ⟨i, hi⟩ => [(0, slv x.b 0 (nb n) x.cap), (1, .bool neg), (4, .pointer (some ⟨g0, 0, none⟩)), (5, slv (some g1) 0 (nb n) (nb n)), (6, .int .i64 (i : Nat))]) (fun ⟨i, hi⟩ => [⟨x.b, 3, NV .i64 (D8 n), x.n, false⟩, ⟨some g0, 61, [.bool false, .string ⟨#[]⟩], 2, true⟩, ⟨some g1, 5, NV .u8 (row (nb n) (bytT n (nb n) i)), nb n, true⟩]) (fun ⟨i, hi⟩ => nb n - i) ⟨0, Nat.zero_le _⟩ ⟨rfl, rfl, rfl, rfl, rfl, trivial⟩ (Weak.refl _) ?_
 rintro ⟨i, hi⟩
 show At _ ⟨39, [(0, slv x.b 0 (nb n) x.cap), (1, .bool neg), (4, .pointer (some ⟨g0, 0, none⟩)), (5, slv (some g1) 0 (nb n) (nb n)), (6, .int .i64 (i : Nat))], [⟨x.b, 3, NV .i64 (D8 n), x.n, false⟩, ⟨some g0, 61, [.bool false, .string ⟨#[]⟩], 2, true⟩, ⟨some g1, 5, NV .u8 (row (nb n) (bytT n (nb n) i)), nb n, true⟩]⟩ _
 refine at_seq (at_seq (at_region (r_move rfl rfl rfl (r_move rfl rfl rfl (r_lenS u33 rfl rfl rfl (r_cmpInt rfl rfl rfl rfl rfl (run_nil (at_tn ?_))))))))
 refine at_cond rfl (fun hb1 => ?_) (fun hb1 => ?_)
 ·
  have hlt : i < nb n := (by have := of_decide_eq_true hb1; omega)
  refine at_skip (at_tn (at_seq (at_block (at_region (r_move rfl rfl rfl (r_move rfl rfl rfl (r_lenS u33 rfl rfl rfl ?_)))))))
  refine r_arith (r := ((nb n - 1 : Nat) : Int)) rfl rfl rfl rfl (congrArg some (wi (by omega) (by omega) (by omega))) ?_
  refine r_move rfl rfl rfl ?_
  refine r_arith (r := ((nb n - 1 - i : Nat) : Int)) rfl rfl rfl rfl (congrArg some (wi (by omega) (by omega) (by omega))) ?_
  refine r_move rfl rfl rfl (r_move rfl rfl rfl ?_)
  refine r_indexAddr 0 (i) u33 ti3 rfl rfl rfl rfl rfl (by omega) (by omega) (NV_ne (by rw [D8_length]; omega)) (by show 0 + Int.toNat _ * 1 = _; omega) ?_
  refine r_load1 0 (i) ti3 rfl rfl rfl rfl (NV_get (D8_get (by omega))) ?_
  refine r_conv (r := ((n / 256 ^ i % 256 : Nat) : Int)) u3 u5 rfl rfl rfl ((c8 _ rfl).trans (by rw [Nat.mod_mod])) ?_
  refine r_indexAddr 2 (nb n - 1 - i) u122 ti5 rfl rfl rfl rfl rfl (by omega) (by omega) (NV_ne (by rw [row_length]; omega)) (by show 0 + Int.toNat _ * 1 = _; omega) ?_
  refine r_store1 rfl 2 (nb n - 1 - i) [_, _, ⟨some g1, 5, _, _, true⟩] (NV .u8 (row (nb n) (bytT n (nb n) (i + 1)))) ti5 rfl rfl rfl rfl rfl rfl rfl rfl (by rw [NV_length, row_length]; omega) (bytT_step n (nb n) i _ hlt rfl) rfl ?_
  refine run_nil (at_bn (at_tn (at_region (r_move rfl rfl rfl ?_))))
  refine r_arith (r := ((i + 1 : Nat) : Int)) rfl rfl rfl rfl (congrArg some (wi (by omega) (by omega) (by omega))) ?_
  refine r_assign rfl rfl rfl (run_nil (at_tn ?_))
  exact nextL ⟨i + 1, hlt⟩ (by simp only []; omega) ⟨rfl, rfl, rfl, rfl, rfl, trivial⟩ (Weak.refl _)
 ·
  have hge : i = nb n := (by have := of_decide_eq_false hb1; omega)
  subst hge
  refine at_exit (at_te (at_te (at_be (at_tn (at_seq (at_region (r_move rfl rfl rfl (r_move rfl rfl rfl ?_))))))))
  refine r_split 31 rfl (fun hb2 => ?_) (fun hb2 => ?_)
  ·
   refine r_move rfl rfl rfl (r_lenS u33 rfl rfl rfl (r_cmpInt rfl rfl rfl rfl rfl (r_pickT rfl rfl rfl rfl (r_move rfl rfl rfl ?_))))
   refine r_convBS 2 u122 u5 u9 rfl rfl rfl rfl rfl (by rw [List.take_of_length_le (by rw [NV_length, row_length]; exact Nat.le_refl _), bytT_rev]) (by rw [List.length_reverse]; rfl) (strN_mag n) ?_
   refine r_build [(0, _), (1, _)] rfl rfl rfl (bd61_2) ?_
   refine r_store rfl 1 0 [_, ⟨some g0, 61, _, 2, true⟩, _] [_, _] rfl rfl rfl rfl ti61 rfl rfl rfl rfl rfl ?_
   refine run_nil (at_tn (at_ret ?_))
   refine at_end1 rfl (res_cell 1 rfl rfl ti61 (vs := [_, _]) rfl rfl (Nat.le_of_ble_eq_true rfl) rfl) (fun w hL => ⟨(), ?_, hL.picks [] trivial rfl rfl⟩)
   exact congrArg Ending.returned (whole_T n hb2)
  ·
   refine r_no rfl rfl rfl (r_no rfl rfl rfl (r_no rfl rfl rfl (r_pickF rfl rfl rfl rfl (r_move rfl rfl rfl ?_))))
   refine r_convBS 2 u122 u5 u9 rfl rfl rfl rfl rfl (by rw [List.take_of_length_le (by rw [NV_length, row_length]; exact Nat.le_refl _), bytT_rev]) (by rw [List.length_reverse]; rfl) (strN_mag n) ?_
   refine r_build [(0, _), (1, _)] rfl rfl rfl (bd61_2) ?_
   refine r_store rfl 1 0 [_, ⟨some g0, 61, _, 2, true⟩, _] [_, _] rfl rfl rfl rfl ti61 rfl rfl rfl rfl rfl ?_
   refine run_nil (at_tn (at_ret ?_))
   refine at_end1 rfl (res_cell 1 rfl rfl ti61 (vs := [_, _]) rfl rfl (Nat.le_of_ble_eq_true rfl) rfl) (fun w hL => ⟨(), ?_, hL.picks [] trivial rfl rfl⟩)
   exact congrArg Ending.returned (whole_F n hb2)
end Go.Proofs.YtncogghlhlnmaaaGreatDoor
