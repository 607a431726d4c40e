/-
  Part 6: lemmas, and walks through the functions that the laws of chapter 26 call. Each theorem states its own conditions.
-/
import Derived.Test.YtncogghlhlnmaaaGreatDoorA05
set_option linter.unusedVariables false
set_option linter.unusedVariables false
namespace Go.Proofs.YtncogghlhlnmaaaGreatDoor
open Go Go.RowKit Go.Via
set_option maxRecDepth 20000 in
theorem c_integer_word (n : Nat) : PCall Tryz.prog 124 #[.string (mag n)] (.tuple #[.int .u64 (if nb n ≤ 8 then (n : Int) else 0), .bool (decide (nb n ≤ 8))]) := by
 refine ⟨by kernel_rfl, fun w => ?_⟩
 refine calls_at (args := [.string (mag n)]) Tryz.func124 rfl (Nat.le_of_ble_eq_true rfl) (LRel.nil w) ?_
 show At w ⟨23, [(0, .string (mag n))], []⟩ _
 refine at_seq (at_region (r_assign rfl rfl rfl (r_assign rfl rfl rfl (run_nil (at_tn (at_seq (at_seq (at_region (r_move rfl rfl rfl ?_)))))))))
 refine r_len rfl u9 rfl rfl ?_
 refine r_know 7 (.int .i64 (nb n : Nat)) rfl (by rw [mag_size]) ?_
 refine r_cmpInt rfl rfl rfl rfl rfl (run_nil (at_tn ?_))
 refine at_cond rfl (fun hb0 => ?_) (fun hb0 => ?_)
 ·
  have h8 : ¬ nb n ≤ 8 := (by have := of_decide_eq_true hb0; omega)
  refine at_seq (at_region (r_assign rfl rfl rfl (r_assign rfl rfl rfl (run_nil (at_tn (at_ret (at_tr ?_)))))))
  refine at_end2 rfl (res_tmp rfl) (res_tmp rfl) (fun w hL => ⟨?_, hL.below⟩)
  rw [if_neg h8, decide_eq_false h8]
 ·
  have h8 : nb n ≤ 8 := (by have := of_decide_eq_false hb0; omega)
  refine at_skip (at_tn (at_seq (at_region (r_assign rfl rfl rfl (run_nil (at_tn (at_seq (at_seq (at_region (r_move rfl rfl rfl ?_))))))))))
  refine r_len rfl u9 rfl rfl ?_
  refine r_know 10 (.int .i64 (nb n : Nat)) rfl (by rw [mag_size]) ?_
  refine r_move rfl rfl rfl (run_nil (at_tn (at_block ?_)))
  refine enterL (nt := 23) (ι := {i : Nat // i ≤ nb n}) (fun ⟨i, hi⟩ => [(0, .string (mag n)), (4, .int .u64 (n / 256 ^ (nb n - i) : Nat)), (10, .int .i64 (nb n : Nat)), (11, .int .i64 (i : Nat))]) (fun ⟨i, hi⟩ => []) (fun ⟨i, hi⟩ => nb n - i) ⟨0, Nat.zero_le _⟩ ⟨rfl, (look_val rfl (word_zero n)), rfl, rfl, trivial⟩ (Weak.refl _) ?_
  rintro ⟨i, hi⟩
  show At _ ⟨23, [(0, .string (mag n)), (4, .int .u64 (n / 256 ^ (nb n - i) : Nat)), (10, .int .i64 (nb n : Nat)), (11, .int .i64 (i : Nat))], []⟩ _
  refine at_seq (at_region (r_cmpInt rfl rfl rfl rfl rfl (run_nil (at_tn (at_seq ?_)))))
  refine at_cond rfl (fun hb2 => ?_) (fun hb2 => ?_)
  ·
   have hlt : i < nb n := (by have := of_decide_eq_true hb2; omega)
   refine at_skip (at_tn (at_seq (at_block (at_seq (at_region (r_move rfl rfl rfl (r_assign rfl rfl rfl (run_nil (at_tn (at_region (r_move rfl rfl rfl ?_)))))))))))
   refine r_shift (r := ((n / 256 ^ (nb n - i) * 2 ^ 8 : Nat) : Int)) rfl rfl rfl rfl (by omega) (congrArg some (shl_u _ 8 rfl rfl (by omega) (word_shl n i hi hlt h8))) ?_
   refine r_move rfl rfl rfl (r_move rfl rfl rfl ?_)
   refine r_idxS (r := ((n / 256 ^ (nb n - 1 - i) % 256 : Nat) : Int)) u9 rfl rfl rfl rfl (by omega) (mag_at n i hlt) (u8_nat _) ?_
   refine r_conv (r := ((n / 256 ^ (nb n - 1 - i) % 256 : Nat) : Int)) u5 u116 rfl rfl rfl (c64 _ rfl (by omega)) ?_
   refine r_or (r := ((n / 256 ^ (nb n - (i + 1)) : Nat) : Int)) rfl rfl rfl rfl (word_or n i hi hlt h8) ?_
   refine r_assign rfl rfl rfl (run_nil (at_bn (at_tn (at_region ?_))))
   refine r_arith (r := ((i + 1 : Nat) : Int)) rfl rfl rfl rfl (congrArg some (wi (by omega) (by omega) (by omega))) ?_
   refine r_move rfl rfl rfl (run_nil (at_tn ?_))
   exact nextL ⟨i + 1, hlt⟩ (by simp only []; omega) ⟨rfl, rfl, rfl, rfl, trivial⟩ (Weak.refl _)
  ·
   have hge : i = nb n := (by have := of_decide_eq_false hb2; omega)
   refine at_exit (at_te (at_te (at_be (at_tn (at_seq (at_region (r_move rfl rfl rfl (r_assign rfl rfl rfl (r_assign rfl rfl rfl (run_nil (at_tn (at_ret ?_))))))))))))
   refine at_end2 rfl (res_tmp rfl) (res_tmp rfl) (fun w hL => ⟨?_, hL.below⟩)
   subst hge; rw [if_pos h8, decide_eq_true h8]; simp
set_option maxRecDepth 20000 in
theorem c_integer_words (m n : Nat) : PCall Tryz.prog 113 #[.string (mag m), .string (mag n)] (.tuple #[.int .u64 (if nb m ≤ 8 then (m : Int) else 0), .int .u64 (if nb n ≤ 8 then (n : Int) else 0), .bool (decide (nb m ≤ 8) && decide (nb n ≤ 8))]) := by
 refine ⟨by kernel_rfl, fun w => ?_⟩
 refine calls_at (args := [.string (mag m), .string (mag n)]) Tryz.func113 rfl (Nat.le_of_ble_eq_true rfl) (LRel.nil w) ?_
 show At w ⟨24, [(0, .string (mag m)), (1, .string (mag n))], []⟩ _
 refine at_seq (at_region (r_assign rfl rfl rfl (r_assign rfl rfl rfl (r_assign rfl rfl rfl (run_nil (at_tn (at_seq (at_region (r_move rfl rfl rfl ?_)))))))))
 refine r_pcall [_] rfl rfl rfl (c_integer_word _) ?_
 refine r_move rfl rfl rfl ?_
 refine r_extract (vs := [_, _]) rfl rfl rfl rfl ?_
 refine r_extract (vs := [_, _]) rfl rfl rfl rfl ?_
 refine r_assign rfl rfl rfl (r_assign rfl rfl rfl (run_nil (at_tn (at_seq (at_region (r_move rfl rfl rfl ?_))))))
 refine r_pcall [_] rfl rfl rfl (c_integer_word _) ?_
 refine r_move rfl rfl rfl ?_
 refine r_extract (vs := [_, _]) rfl rfl rfl rfl ?_
 refine r_extract (vs := [_, _]) rfl rfl rfl rfl ?_
 refine r_assign rfl rfl rfl (r_assign rfl rfl rfl (run_nil (at_tn (at_seq (at_region (r_move rfl rfl rfl (r_move rfl rfl rfl (r_move rfl rfl rfl (r_move rfl rfl rfl ?_)))))))))
 refine r_split 21 rfl (fun hb0 => ?_) (fun hb0 => ?_)
 ·
  refine r_move rfl rfl rfl (r_pickT rfl rfl rfl rfl (r_assign rfl rfl rfl (r_assign rfl rfl rfl (r_assign rfl rfl rfl (run_nil (at_tn (at_ret ?_)))))))
  refine at_end3 rfl (res_tmp rfl) (res_tmp rfl) (res_tmp rfl) (fun w hL => ⟨?_, hL.below⟩)
  rw [hb0]; rfl
 ·
  refine r_no rfl rfl rfl (r_pickF rfl rfl rfl rfl (r_assign rfl rfl rfl (r_assign rfl rfl rfl (r_assign rfl rfl rfl (run_nil (at_tn (at_ret ?_)))))))
  refine at_end3 rfl (res_tmp rfl) (res_tmp rfl) (res_tmp rfl) (fun w hL => ⟨?_, hL.below⟩)
  rw [hb0]; rfl
set_option maxRecDepth 20000 in
theorem c_cmp_isNaN (x : Int) : PCall Tryz.prog 71 #[.int .i64 x] (.bool false) := by
 refine ⟨by kernel_rfl, fun w => ?_⟩
 refine calls_at (args := [.int .i64 x]) Tryz.func71 rfl (Nat.le_of_ble_eq_true rfl) (LRel.nil w) ?_
 show At w ⟨6, [(0, .int .i64 x)], []⟩ _
 refine at_seq (at_region (r_assign rfl rfl rfl (run_nil (at_tn (at_seq (at_region (r_move rfl rfl rfl (r_move rfl rfl rfl (r_cmpInt rfl rfl rfl rfl rfl (r_assign rfl rfl rfl (run_nil (at_tn (at_ret ?_)))))))))))))
 refine at_end1 rfl (res_tmp rfl) (fun w hL => ⟨?_, hL.below⟩)
 rw [bne_self_eq_false]
set_option maxRecDepth 20000 in
theorem c_cmp_Compare (x y : Int) : PCall Tryz.prog 121 #[.int .i64 x, .int .i64 y] (.int .i64 (if x < y then -1 else if y < x then 1 else 0)) := by
 refine ⟨by kernel_rfl, fun w => ?_⟩
 refine calls_at (args := [.int .i64 x, .int .i64 y]) Tryz.func121 rfl (Nat.le_of_ble_eq_true rfl) (LRel.nil w) ?_
 show At w ⟨20, [(0, .int .i64 x), (1, .int .i64 y)], []⟩ _
 refine at_seq (at_region (r_assign rfl rfl rfl (run_nil (at_tn (at_seq (at_region (r_move rfl rfl rfl ?_)))))))
 refine r_pcall [_] rfl rfl rfl (c_cmp_isNaN _) ?_
 refine r_assign rfl rfl rfl (run_nil (at_tn (at_seq (at_region (r_move rfl rfl rfl ?_)))))
 refine r_pcall [_] rfl rfl rfl (c_cmp_isNaN _) ?_
 refine r_assign rfl rfl rfl (run_nil (at_tn (at_seq (at_seq (at_region (r_move rfl rfl rfl (run_nil (at_tn (at_condF rfl (at_skip (at_tn (at_seq (at_seq (at_region (r_move rfl rfl rfl (run_nil (at_tn (at_condF rfl (at_skip (at_tn (at_seq (at_seq (at_region ?_)))))))))))))))))))))))
 refine r_move rfl rfl rfl (r_move rfl rfl rfl (r_cmpInt rfl rfl rfl rfl rfl (run_nil (at_tn ?_))))
 refine at_cond rfl (fun hb0 => ?_) (fun hb0 => ?_)
 ·
  refine at_seq (at_region (r_assign rfl rfl rfl (run_nil (at_tn (at_ret (at_tr ?_))))))
  refine at_end1 rfl (res_tmp rfl) (fun w hL => ⟨?_, hL.below⟩)
  rw [if_pos (of_decide_eq_true hb0)]
 ·
  refine at_skip (at_tn (at_seq (at_seq (at_region (r_move rfl rfl rfl (r_move rfl rfl rfl (r_cmpInt rfl rfl rfl rfl rfl (run_nil (at_tn ?_)))))))))
  refine at_cond rfl (fun hb1 => ?_) (fun hb1 => ?_)
  ·
   refine at_seq (at_region (r_assign rfl rfl rfl (run_nil (at_tn (at_ret (at_tr ?_))))))
   refine at_end1 rfl (res_tmp rfl) (fun w hL => ⟨?_, hL.below⟩)
   rw [if_neg (of_decide_eq_false hb0), if_pos (of_decide_eq_true hb1)]
  ·
   refine at_skip (at_tn (at_seq (at_region (r_assign rfl rfl rfl (run_nil (at_tn (at_ret ?_)))))))
   refine at_end1 rfl (res_tmp rfl) (fun w hL => ⟨?_, hL.below⟩)
   rw [if_neg (of_decide_eq_false hb0), if_neg (of_decide_eq_false hb1)]
set_option maxRecDepth 20000 in
theorem c_integer_magnitude (n : Nat) (h : n < 18446744073709551616) : PCall Tryz.prog 78 #[.int .u64 (n : Nat)] (.string (mag n)) := by
 refine ⟨by kernel_rfl, fun w => ?_⟩
 refine calls_at (args := [.int .u64 (n : Nat)]) Tryz.func78 rfl (Nat.le_of_ble_eq_true rfl) (LRel.nil w) ?_
 show At w ⟨30, [(0, .int .u64 (n : Nat))], []⟩ _
 refine at_seq (at_region (r_assign rfl rfl rfl (run_nil (at_tn (at_seq (at_seq (at_region (r_move rfl rfl rfl (r_cmpInt rfl rfl rfl rfl rfl (run_nil (at_tn ?_)))))))))))
 refine at_cond rfl (fun hb0 => ?_) (fun hb0 => ?_)
 ·
  have h0 : n = 0 := by have := eq_of_beq hb0; omega
  refine at_seq (at_region (r_assign rfl rfl rfl (run_nil (at_tn (at_ret (at_tr ?_))))))
  refine at_end1 rfl (res_tmp rfl) (fun w hL => ⟨?_, hL.below⟩)
  subst h0; rw [mag_zero]
 ·
  have h0 : n ≠ 0 := by have := ne_of_beq_false hb0; omega
  have h8 := nb_le8 h
  have hp := nb_pos h0
  refine at_skip (at_tn (at_seq (at_region (r_move rfl rfl rfl ?_))))
  refine r_pcall [_] rfl rfl rfl (c_math_bits_Len64 _ h) ?_
  refine r_arith (r := ((Lib.bitLen n + 7 : Nat) : Int)) rfl rfl rfl rfl (congrArg some (wi (by omega) (by have := Lib.bitLen_le n 64 (by omega) (by omega); omega) (by omega))) ?_
  refine r_div (r := ((nb n : Nat) : Int)) rfl rfl rfl rfl (by omega) (congrArg some ((quo_i _ 8 rfl rfl (by have := Lib.bitLen_le n 64 (by omega) (by omega); omega)).trans (by rw [bitLen_nb h h0]))) ?_
  refine r_assign rfl rfl rfl (run_nil (at_tn (at_seq (at_region ?_))))
  refine r_alloc [_, _, _, _, _, _, _, _] 8 (fun g => [⟨some g, 139, _, 8, true⟩]) rfl rfl z139 rfl rfl (fun _ => rfl) (fun g0 => ?_)
  refine run_nil (at_tn (at_seq (at_seq (at_region (r_move rfl rfl rfl (r_move rfl rfl rfl (run_nil (at_tn (at_block ?_)))))))))
  refine enterL (nt := 30) (ι := {i : Nat // i ≤ nb n}) (fun ⟨i, hi⟩ => [(0, .int .u64 (n : Nat)), (3, .int .i64 (nb n : Nat)), (4, .pointer (some ⟨g0, 0, none⟩)), (12, .int .i64 (nb n : Nat)), (13, .int .i64 (i : Nat))]) (fun ⟨i, hi⟩ => [⟨some g0, 139, NV .u8 (row 8 (magT n i)), 8, true⟩]) (fun ⟨i, hi⟩ => nb n - i) ⟨0, Nat.zero_le _⟩ ⟨rfl, rfl, rfl, rfl, rfl, trivial⟩ (weak_eq (congrArg (fun c => [(⟨some g0, 139, c, 8, true⟩ : Blk)]) (magT_zero n).symm)) ?_
  rintro ⟨i, hi⟩
  show At _ ⟨30, [(0, .int .u64 (n : Nat)), (3, .int .i64 (nb n : Nat)), (4, .pointer (some ⟨g0, 0, none⟩)), (12, .int .i64 (nb n : Nat)), (13, .int .i64 (i : Nat))], [⟨some g0, 139, NV .u8 (row 8 (magT n i)), 8, true⟩]⟩ _
  refine at_seq (at_region (r_cmpInt rfl rfl rfl rfl rfl (run_nil (at_tn (at_seq ?_)))))
  refine at_cond rfl (fun hb2 => ?_) (fun hb2 => ?_)
  ·
   have hlt : i < nb n := (by have := of_decide_eq_true hb2; omega)
   refine at_skip (at_tn (at_seq (at_block (at_seq (at_region (r_move rfl rfl rfl (r_assign rfl rfl rfl (run_nil (at_tn (at_region (r_move rfl rfl rfl ?_)))))))))))
   refine r_arith (r := ((nb n - 1 : Nat) : Int)) rfl rfl rfl rfl (congrArg some (wi (by omega) (by omega) (by omega))) ?_
   refine r_move rfl rfl rfl ?_
   refine r_arith (r := ((nb n - 1 - i : Nat) : Int)) rfl rfl rfl rfl (congrArg some (wi (by omega) (by omega) (by omega))) ?_
   refine r_move rfl rfl rfl (r_move rfl rfl rfl ?_)
   refine r_arith (r := ((8 * i : Nat) : Int)) rfl rfl rfl rfl (congrArg some (wi (by omega) (by omega) (by omega))) ?_
   refine r_shift (r := ((n / 2 ^ (8 * i) : Nat) : Int)) rfl rfl rfl rfl (by omega) (congrArg some (shr_u _ _ rfl rfl (by omega))) ?_
   refine r_conv (r := ((n / 2 ^ (8 * i) % 256 : Nat) : Int)) u116 u5 rfl rfl rfl (c8 _ rfl) ?_
   refine r_indexAddrA (nb n - 1 - i) u139 ti5 rfl rfl rfl rfl (by omega) (by omega) (by show 0 + Int.toNat _ * 1 = _; omega) ?_
   refine r_store1 rfl 0 (nb n - 1 - i) [⟨some g0, 139, _, 8, true⟩] (NV .u8 (row 8 (magT n (i + 1)))) ti5 rfl rfl rfl rfl rfl rfl rfl rfl (by rw [NV_length, row_length]; omega) (magT_step n i hlt) rfl ?_
   refine run_nil (at_bn (at_tn (at_region ?_)))
   refine r_arith (r := ((i + 1 : Nat) : Int)) rfl rfl rfl rfl (congrArg some (wi (by omega) (by omega) (by omega))) ?_
   refine r_move rfl rfl rfl (run_nil (at_tn ?_))
   exact nextL ⟨i + 1, hlt⟩ (by simp only []; omega) ⟨rfl, rfl, rfl, rfl, rfl, trivial⟩ (Weak.refl _)
  ·
   have hge : i = nb n := (by have := of_decide_eq_false hb2; omega)
   subst hge
   refine at_exit (at_te (at_te (at_be (at_tn (at_seq (at_region (r_move rfl rfl rfl ?_)))))))
   refine r_sliceA (nb n) u139 ti5 rfl rfl rfl rfl (by omega) (by omega) (by omega) ?_
   refine r_convBS 0 u122 u5 u9 rfl rfl rfl rfl rfl (magT_end n h8) (by rw [List.length_reverse]; rfl) (strN_mag n) ?_
   refine r_assign rfl rfl rfl (run_nil (at_tn (at_ret ?_)))
   refine at_end1 rfl (res_tmp rfl) (fun w hL => ⟨?_, hL.below⟩)
   exact rfl
end Go.Proofs.YtncogghlhlnmaaaGreatDoor
set_option linter.unusedVariables false
namespace Go.Proofs.YtncogghlhlnmaaaGreatDoor
open Go Go.RowKit Go.Via
set_option maxRecDepth 20000 in
theorem c_cmp_Or (a b : Int) (g : Nat) : SCall Tryz.prog 120 [⟨some g, 3, [.int .i64 a, .int .i64 b], 2, false⟩] [slv (some g) 0 2 2] Unit (fun _ => .int .i64 (if a = 0 then b else a)) (fun _ => []) := by
 refine ⟨by kernel_rfl, fun w hL0 => ?_⟩
 refine calls_at (args := [slv (some g) 0 2 2]) Tryz.func120 rfl (Nat.le_of_ble_eq_true rfl) hL0 ?_
 show At w ⟨18, [(0, slv (some g) 0 2 2)], [⟨some g, 3, [.int .i64 a, .int .i64 b], 2, false⟩]⟩ _
 refine at_seq (at_region (r_assign rfl rfl rfl (run_nil (at_tn (at_seq (at_region (r_assign rfl rfl rfl (run_nil (at_tn (at_seq (at_seq (at_region (r_move rfl rfl rfl ?_)))))))))))))
 refine r_lenS u33 rfl rfl rfl ?_
 refine r_move rfl rfl rfl (run_nil (at_tn (at_block ?_)))
 refine enterL (nt := 18) (ι := {i : Nat // i ≤ 2 ∧ (0 < i → a = 0) ∧ (1 < i → b = 0)}) (fun ⟨i, hi, ha, hb⟩ => [(3, .int .i64 0), (6, slv (some g) 0 2 2), (7, .int .i64 2), (8, .int .i64 (i : Nat))]) (fun ⟨i, hi, ha, hb⟩ => [⟨some g, 3, [.int .i64 a, .int .i64 b], 2, false⟩]) (fun ⟨i, hi, ha, hb⟩ => 2 - i) ⟨0, by omega, fun h => absurd h (by omega), fun h => absurd h (by omega)⟩ ⟨rfl, rfl, rfl, rfl, trivial⟩ (Weak.refl _) ?_
 rintro ⟨i, hi, ha, hb⟩
 show At _ ⟨18, [(3, .int .i64 0), (6, slv (some g) 0 2 2), (7, .int .i64 2), (8, .int .i64 (i : Nat))], [⟨some g, 3, [.int .i64 a, .int .i64 b], 2, false⟩]⟩ _
 refine at_seq (at_region (r_cmpInt rfl rfl rfl rfl rfl (run_nil (at_tn (at_seq ?_)))))
 refine at_cond rfl (fun hb1 => ?_) (fun hb1 => ?_)
 ·
  have hlt : i < 2 := (by have := of_decide_eq_true hb1; omega)
  refine at_skip (at_tn (at_seq (at_block (at_seq (at_region ?_)))))
  refine r_indexAddr 0 i u33 ti3 rfl rfl rfl rfl rfl (by omega) (by omega) (List.cons_ne_nil _ _) (by show 0 + Int.toNat _ * 1 = _; omega) ?_
  refine r_load1 (v := .int .i64 (if i = 0 then a else b)) 0 i ti3 rfl rfl rfl rfl (or_get a b i hlt) ?_
  refine r_assign rfl rfl rfl (run_nil (at_tn (at_seq (at_region (r_move rfl rfl rfl (r_move rfl rfl rfl (r_cmpInt rfl rfl rfl rfl rfl (run_nil (at_tn ?_)))))))))
  refine at_cond rfl (fun hb2 => ?_) (fun hb2 => ?_)
  ·
   have hne : (if i = 0 then a else b) ≠ 0 := by simpa using hb2
   refine at_seq (at_region (r_move rfl rfl rfl (r_assign rfl rfl rfl (run_nil (at_tn (at_ret (at_br (at_tr (at_tr (at_br (at_tr ?_)))))))))))
   refine at_end1 rfl (res_tmp rfl) (fun w hL => ⟨(), ?_, hL.picks [] trivial rfl rfl⟩)
   rw [or_end1 a b i ha hne]
  ·
   have he : (if i = 0 then a else b) = 0 := by simpa using hb2
   refine at_skip (at_bn (at_tn (at_region ?_)))
   refine r_arith (r := ((i + 1 : Nat) : Int)) rfl rfl rfl rfl (congrArg some (wi (by omega) (by omega) (by omega))) ?_
   refine r_move rfl rfl rfl (run_nil (at_tn ?_))
   exact nextL ⟨i + 1, hlt, or_a a b i ha he, or_b a b i he⟩ (by simp only []; omega) ⟨rfl, rfl, rfl, rfl, trivial⟩ (Weak.refl _)
 ·
  have hge : i = 2 := (by have := of_decide_eq_false hb1; omega)
  subst hge
  refine at_exit (at_te (at_te (at_be (at_tn (at_seq (at_region (r_move rfl rfl rfl (r_assign rfl rfl rfl (run_nil (at_tn (at_ret ?_)))))))))))
  refine at_end1 rfl (res_tmp rfl) (fun w hL => ⟨(), ?_, hL.picks [] trivial rfl rfl⟩)
  rw [if_pos (ha (by omega)), hb (by omega)]
set_option maxRecDepth 20000 in
theorem c_integer_compare (m n : Nat) : PCall Tryz.prog 105 #[.string (mag m), .string (mag n)] (.int .i64 (cmpN m n)) := by
 refine ⟨by kernel_rfl, fun w => ?_⟩
 refine calls_at (args := [.string (mag m), .string (mag n)]) Tryz.func105 rfl (Nat.le_of_ble_eq_true rfl) (LRel.nil w) ?_
 show At w ⟨15, [(0, .string (mag m)), (1, .string (mag n))], []⟩ _
 refine at_seq (at_region (r_assign rfl rfl rfl (run_nil (at_tn (at_seq (at_region (r_move rfl rfl rfl ?_)))))))
 refine r_len rfl u9 rfl rfl ?_
 refine r_know 6 (.int .i64 (nb m : Nat)) rfl (by rw [mag_size]) ?_
 refine r_move rfl rfl rfl ?_
 refine r_len rfl u9 rfl rfl ?_
 refine r_know 8 (.int .i64 (nb n : Nat)) rfl (by rw [mag_size]) ?_
 refine r_pcall [_, _] rfl rfl rfl (c_cmp_Compare _ _) ?_
 refine r_move rfl rfl rfl (r_move rfl rfl rfl ?_)
 refine r_pcall [_, _] rfl rfl rfl (c_strings_Compare _ _) ?_
 refine r_buildSlice [(0, _), (1, _)] (fun g => [⟨some g, 3, _, 2, true⟩]) rfl rfl rfl (bs33_2) rfl (fun _ => rfl) (fun g0 => ?_)
 refine r_scall0 [_] [0] rfl rfl rfl (c_cmp_Or _ _ _) ⟨⟨_, rfl, le_share⟩, trivial⟩ rfl ?_
 refine r_assign rfl rfl rfl (run_nil (at_tn (at_ret ?_)))
 refine at_end1 rfl (res_tmp rfl) (fun w hL => ⟨?_, hL.below⟩)
 rw [compare_all]
set_option maxRecDepth 20000 in
theorem c_trimLeftByte (l : List UInt8) (c : UInt8) : PCall Tryz.prog 132 #[.string (strU l), .int .u8 (c.toNat : Nat)] (.string (strU (l.dropWhile (· == c)))) := by
 refine ⟨by kernel_rfl, fun w => ?_⟩
 refine calls_at (args := [.string (strU l), .int .u8 (c.toNat : Nat)]) Tryz.func132 rfl (Nat.le_of_ble_eq_true rfl) (LRel.nil w) ?_
 show At w ⟨17, [(0, .string (strU l)), (1, .int .u8 (c.toNat : Nat))], []⟩ _
 refine at_seq (at_region (r_assign rfl rfl rfl (run_nil (at_tn (at_seq (at_block ?_))))))
 refine enterL (nt := 17) (ι := {r : List UInt8 // r.dropWhile (· == c) = l.dropWhile (· == c)}) (fun ⟨r, hr⟩ => [(0, .string (strU r)), (1, .int .u8 (c.toNat : Nat))]) (fun ⟨r, hr⟩ => []) (fun ⟨r, hr⟩ => r.length) ⟨l, rfl⟩ ⟨rfl, rfl, trivial⟩ (Weak.refl _) ?_
 rintro ⟨r, hr⟩
 show At _ ⟨17, [(0, .string (strU r)), (1, .int .u8 (c.toNat : Nat))], []⟩ _
 refine at_seq (at_seq (at_region (r_move rfl rfl rfl ?_)))
 refine r_len rfl u9 rfl rfl ?_
 refine r_know 6 (.int .i64 (r.length : Nat)) rfl (by rw [strU_size]) ?_
 refine r_cmpInt rfl rfl rfl rfl rfl (r_move rfl rfl rfl ?_)
 refine r_split 8 rfl (fun hb1 => ?_) (fun hb1 => ?_)
 ·
  have h0 : 0 < r.length := (by have := of_decide_eq_true hb1; omega)
  obtain ⟨x, r, rfl⟩ := pos_cons h0
  refine r_move rfl rfl rfl ?_
  refine r_idxS (b := x) (r := (x.toNat : Int)) u9 rfl rfl rfl rfl (by omega) rfl rfl ?_
  refine r_move rfl rfl rfl (r_cmpInt rfl rfl rfl rfl rfl (r_pickT rfl rfl rfl rfl (run_nil (at_tn ?_))))
  refine at_cond rfl (fun hb2 => ?_) (fun hb2 => ?_)
  ·
   have hx : x = c := by have := eq_of_beq hb2; exact UInt8.toNat_inj.1 (by omega)
   refine at_skip (at_tn (at_block (at_region (r_move rfl rfl rfl ?_))))
   refine r_sliceStr (r := strU r) u9 rfl rfl rfl rfl (by omega) (by rw [strU_size, List.length_cons]; omega) (strU_tail x r) ?_
   refine r_assign rfl rfl rfl (run_nil (at_bn (at_tn ?_)))
   exact nextL ⟨r, by rw [← hr, hx, List.dropWhile_cons_of_pos (by simp)]⟩ (by simp) ⟨rfl, rfl, trivial⟩ (Weak.refl _)
  ·
   have hx : x ≠ c := fun e => by subst e; simp at hb2
   refine at_exit (at_te (at_te (at_be (at_tn (at_seq (at_region (r_move rfl rfl rfl (r_assign rfl rfl rfl (run_nil (at_tn (at_ret ?_)))))))))))
   refine at_end1 rfl (res_tmp rfl) (fun w hL => ⟨?_, hL.below⟩)
   rw [← hr, List.dropWhile_cons_of_neg (by simpa using hx)]
 ·
  have h0 : r = [] := List.eq_nil_of_length_eq_zero (by have := of_decide_eq_false hb1; omega)
  refine r_no rfl rfl rfl (r_no rfl rfl rfl (r_no rfl rfl rfl (r_no rfl rfl rfl (r_pickF rfl rfl rfl rfl (run_nil (at_tn (at_condF rfl (at_exit (at_te (at_te (at_be (at_tn (at_seq (at_region (r_move rfl rfl rfl (r_assign rfl rfl rfl (run_nil (at_tn (at_ret ?_)))))))))))))))))))
  refine at_end1 rfl (res_tmp rfl) (fun w hL => ⟨?_, hL.below⟩)
  rw [← hr, h0]; rfl
set_option maxRecDepth 20000 in
theorem c_strings_TrimLeft (l : List UInt8) : PCall Tryz.prog 130 #[.string (strU l), .string ⟨#[0]⟩] (.string (strU (l.dropWhile (· == 0)))) := by
 refine ⟨by kernel_rfl, fun w => ?_⟩
 refine calls_at (args := [.string (strU l), .string ⟨#[0]⟩]) Tryz.func130 rfl (Nat.le_of_ble_eq_true rfl) (LRel.nil w) ?_
 show At w ⟨37, [(0, .string (strU l)), (1, .string ⟨#[0]⟩)], []⟩ _
 refine at_seq (at_region (r_assign rfl rfl rfl (run_nil (at_tn (at_seq (at_seq (at_region (r_move rfl rfl rfl (r_eqlStr rfl rfl rfl rfl (r_move rfl rfl rfl ?_))))))))))
 refine r_split 9 rfl (fun hb0 => ?_) (fun hb0 => ?_)
 ·
  refine r_no rfl rfl rfl (r_no rfl rfl rfl (r_pickT rfl rfl rfl rfl (run_nil (at_tn (at_condT rfl (at_seq (at_region (r_move rfl rfl rfl (r_assign rfl rfl rfl (run_nil (at_tn (at_ret (at_tr ?_)))))))))))))
  refine at_end1 rfl (res_tmp rfl) (fun w hL => ⟨?_, hL.below⟩)
  rw [strU_empty hb0]; rfl
 ·
  refine r_move rfl rfl rfl (r_eqlStr rfl rfl rfl rfl ?_)
  refine r_know 11 (.bool false) rfl rfl ?_
  refine r_pickF rfl rfl rfl rfl (run_nil (at_tn (at_condF rfl (at_skip (at_tn (at_seq (at_seq (at_region (r_move rfl rfl rfl ?_)))))))))
  refine r_len rfl u9 rfl rfl ?_
  refine r_cmpInt rfl rfl rfl rfl rfl ?_
  refine r_know 16 (.bool true) rfl rfl ?_
  refine r_move rfl rfl rfl (r_move rfl rfl rfl ?_)
  refine r_idxS (b := 0) (r := 0) u9 rfl rfl rfl rfl (by omega) rfl rfl ?_
  refine r_cmpInt rfl rfl rfl rfl rfl ?_
  refine r_know 20 (.bool true) rfl rfl ?_
  refine r_pickT rfl rfl rfl rfl (run_nil (at_tn (at_condT rfl (at_seq (at_region (r_move rfl rfl rfl (r_move rfl rfl rfl ?_)))))))
  refine r_idxS (b := 0) (r := 0) u9 rfl rfl rfl rfl (by omega) rfl rfl ?_
  refine r_pcall [_, _] rfl rfl rfl (c_trimLeftByte l 0) ?_
  refine r_assign rfl rfl rfl (run_nil (at_tn (at_ret (at_tr ?_))))
  refine at_end1 rfl (res_tmp rfl) (fun w hL => ⟨?_, hL.below⟩)
  exact rfl
set_option maxRecDepth 20000 in
theorem c_nat_trim (l : List Nat) (hl : ∀ d ∈ l, d < B32) (hn : l.length ≤ 1073741824) {len : Nat} (hlen : l.length = len) (x : SR len) : SCall Tryz.prog 129 [⟨x.b, 136, NV .u32 l, x.n, false⟩] [x.v] Unit (fun _ => slv x.b 0 (digs B32 (val B32 l)).length x.cap) (fun _ => []) := by
 refine ⟨by kernel_rfl, fun w hL0 => ?_⟩
 subst hlen
 refine calls_at (args := [x.v]) Tryz.func129 rfl (Nat.le_of_ble_eq_true rfl) hL0 ?_
 show At w ⟨21, [(0, x.v)], [⟨x.b, 136, NV .u32 l, x.n, false⟩]⟩ _
 refine at_seq (at_region (r_assign rfl rfl rfl (run_nil (at_tn (at_seq (at_block ?_))))))
 refine enterL (nt := 21) (ι := {m : Nat // m ≤ l.length ∧ val B32 (l.take m) = val B32 l}) (fun ⟨m, hm, hv⟩ => [(0, slv x.b 0 m x.cap)]) (fun ⟨m, hm, hv⟩ => [⟨x.b, 136, NV .u32 l, x.n, false⟩]) (fun ⟨m, hm, hv⟩ => m) ⟨l.length, Nat.le_refl _, by rw [List.take_of_length_le (Nat.le_refl _)]⟩ ⟨rfl, trivial⟩ (Weak.refl _) ?_
 rintro ⟨m, hm, hv⟩
 show At _ ⟨21, [(0, slv x.b 0 m x.cap)], [⟨x.b, 136, NV .u32 l, x.n, false⟩]⟩ _
 refine at_seq (at_seq (at_region (r_move rfl rfl rfl ?_)))
 refine r_lenS u161 rfl rfl rfl ?_
 refine r_cmpInt rfl rfl rfl rfl rfl (r_move rfl rfl rfl ?_)
 refine r_split 6 rfl (fun hb1 => ?_) (fun hb1 => ?_)
 ·
  have h0 : 0 < m := (by have := of_decide_eq_true hb1; omega)
  refine r_move rfl rfl rfl (r_move rfl rfl rfl ?_)
  refine r_lenS u161 rfl rfl rfl ?_
  refine r_arith (r := ((m - 1 : Nat) : Int)) rfl rfl rfl rfl (congrArg some (wi (by omega) (by omega) (by omega))) ?_
  refine r_indexAddr 0 (m - 1) u161 ti136 rfl rfl rfl rfl rfl (by omega) (by omega) (NV_ne (by omega)) (by show 0 + Int.toNat _ * 1 = _; omega) ?_
  refine r_load1 0 (m - 1) ti136 rfl rfl rfl rfl (NV_get (l := l) (List.getElem?_eq_getElem (by omega))) ?_
  refine r_cmpInt rfl rfl rfl rfl rfl (r_pickT rfl rfl rfl rfl (run_nil (at_tn ?_)))
  refine at_cond rfl (fun hb2 => ?_) (fun hb2 => ?_)
  ·
   have hz : l[m - 1] = 0 := (by have := eq_of_beq hb2; omega)
   refine at_skip (at_tn (at_block (at_region (r_move rfl rfl rfl (r_move rfl rfl rfl ?_)))))
   refine r_lenS u161 rfl rfl rfl ?_
   refine r_arith (r := ((m - 1 : Nat) : Int)) rfl rfl rfl rfl (congrArg some (wi (by omega) (by omega) (by omega))) ?_
   refine r_sliceH (m - 1) u161 ti136 rfl rfl rfl rfl (by omega) (by have := x.h; omega) (by omega) ?_
   refine r_assign rfl rfl rfl (run_nil (at_bn (at_tn ?_)))
   exact nextL ⟨m - 1, by omega, trim_step' h0 hm hv (by omega) hz⟩ (by simp only []; omega) ⟨rfl, trivial⟩ (Weak.refl _)
  ·
   have hz : l[m - 1] ≠ 0 := (by have := ne_of_beq_false hb2; omega)
   refine at_exit (at_te (at_te (at_be (at_tn (at_seq (at_region (r_move rfl rfl rfl (r_assign rfl rfl rfl (run_nil (at_tn (at_ret ?_)))))))))))
   refine at_end1 rfl (res_tmp rfl) (fun w hL => ⟨(), ?_, hL.picks [] trivial rfl rfl⟩)
   rw [trim_len (B := B32) (by decide) hl hm hv (.inr ⟨by omega, hz⟩)]
 ·
  have h0 : m = 0 := (by have := of_decide_eq_false hb1; omega)
  refine r_no rfl rfl rfl (r_no rfl rfl rfl (r_no rfl rfl rfl (r_no rfl rfl rfl (r_no rfl rfl rfl (r_no rfl rfl rfl (r_no rfl rfl rfl (r_pickF rfl rfl rfl rfl (run_nil (at_tn (at_condF rfl (at_exit (at_te (at_te (at_be (at_tn (at_seq (at_region (r_move rfl rfl rfl (r_assign rfl rfl rfl (run_nil (at_tn (at_ret ?_))))))))))))))))))))))
  refine at_end1 rfl (res_tmp rfl) (fun w hL => ⟨(), ?_, hL.picks [] trivial rfl rfl⟩)
  rw [trim_len (B := B32) (by decide) hl hm hv (.inl h0)]
set_option maxRecDepth 20000 in
theorem c_integer_digits (n : Nat) (hn : nb n ≤ 67108872) : SCall Tryz.prog 118 [] [.string (mag n)] Nat (fun g => slv (some g) 0 (digs B32 n).length (digs B32 n).length) (fun g => [⟨some g, 136, NV .u32 (digs B32 n), (digs B32 n).length, true⟩]) := by
 refine ⟨by kernel_rfl, fun w hL0 => ?_⟩
 refine calls_at (args := [.string (mag n)]) Tryz.func118 rfl (Nat.le_of_ble_eq_true rfl) hL0 ?_
 show At w ⟨38, [(0, .string (mag n))], []⟩ _
 refine at_seq (at_region (r_assign rfl rfl rfl (run_nil (at_tn (at_seq (at_region (r_move rfl rfl rfl ?_)))))))
 refine r_len rfl u9 rfl rfl ?_
 refine r_know 7 (.int .i64 (nb n : Nat)) rfl (by rw [mag_size]) ?_
 refine r_arith (r := ((nb n + 3 : Nat) : Int)) rfl rfl rfl rfl (congrArg some (wi (by omega) (by omega) (by omega))) ?_
 refine r_div (r := (((nb n + 3) / 4 : Nat) : Int)) rfl rfl rfl rfl (by omega) (congrArg some (quo_i _ 4 rfl rfl (by omega))) ?_
 refine q_makeSlice (c := (nb n + 3) / 4) (NV .u32 (row ((nb n + 3) / 4) (digT n 0))) (fun g => [⟨some g, 136, _, _, true⟩]) u161 el136 rfl rfl rfl rfl rfl rfl (by omega) (by rw [row_congr (g := fun _ => 0) (fun j _ => digT_zero n j), row_zero, NV_replicate]) (fun _ => rfl) (fun g0 => ?_)
 refine r_assign rfl rfl rfl (run_nil (at_tn (at_seq (at_seq (at_region (r_move rfl rfl rfl ?_))))))
 refine r_len rfl u9 rfl rfl ?_
 refine r_know 12 (.int .i64 (nb n : Nat)) rfl (by rw [mag_size]) ?_
 refine r_move rfl rfl rfl (run_nil (at_tn (at_block ?_)))
 refine enterL (nt := 38) (ι := {i : Nat // i ≤ nb n}) (fun ⟨i, hi⟩ => [(0, .string (mag n)), (3, slv (some g0) 0 ((nb n + 3) / 4) ((nb n + 3) / 4)), (12, .int .i64 (nb n : Nat)), (13, .int .i64 (i : Nat))]) (fun ⟨i, hi⟩ => [⟨some g0, 136, NV .u32 (row ((nb n + 3) / 4) (digT n i)), (nb n + 3) / 4, true⟩]) (fun ⟨i, hi⟩ => nb n - i) ⟨0, Nat.zero_le _⟩ ⟨rfl, rfl, rfl, rfl, trivial⟩ (Weak.refl _) ?_
 rintro ⟨i, hi⟩
 show At _ ⟨38, [(0, .string (mag n)), (3, slv (some g0) 0 ((nb n + 3) / 4) ((nb n + 3) / 4)), (12, .int .i64 (nb n : Nat)), (13, .int .i64 (i : Nat))], [⟨some g0, 136, NV .u32 (row ((nb n + 3) / 4) (digT n i)), (nb n + 3) / 4, true⟩]⟩ _
 refine at_seq (at_region (r_cmpInt rfl rfl rfl rfl rfl (run_nil (at_tn (at_seq ?_)))))
 refine at_cond rfl (fun hb1 => ?_) (fun hb1 => ?_)
 ·
  have hlt : i < nb n := (by have := of_decide_eq_true hb1; omega)
  refine at_skip (at_tn (at_seq (at_block (at_seq (at_region (r_move rfl rfl rfl (r_assign rfl rfl rfl (run_nil (at_tn (at_seq (at_region (r_move rfl rfl rfl ?_))))))))))))
  refine r_len rfl u9 rfl rfl ?_
  refine r_know 17 (.int .i64 (nb n : Nat)) rfl (by rw [mag_size]) ?_
  refine r_arith (r := ((nb n - 1 : Nat) : Int)) rfl rfl rfl rfl (congrArg some (wi (by omega) (by omega) (by omega))) ?_
  refine r_move rfl rfl rfl ?_
  refine r_arith (r := ((nb n - 1 - i : Nat) : Int)) rfl rfl rfl rfl (congrArg some (wi (by omega) (by omega) (by omega))) ?_
  refine r_assign rfl rfl rfl (run_nil (at_tn ?_))
  refine at_drawn (l' := [⟨_,_,_,_,_,_⟩, ⟨_,_,_,_,_,_⟩, ⟨_,_,_,_,_,_⟩, ⟨_,_,_,_,_,_⟩, ⟨_,_,_,_,_,_⟩, ⟨_,_,_,_,_,_⟩, ⟨_,_,_,_,_,_⟩, ⟨_,_,_,_,_,_⟩, ⟨_,_,_,_,_,_⟩, ⟨_,_,_,_,_,_⟩, ⟨_,_,_,_,_,_⟩, ⟨_,_,_,_,_,_⟩, ⟨_,_,_,_,_,_⟩, ⟨_,_,_,_,_,_⟩, ⟨_,_,_,_,_,_⟩, ⟨_,_,_,_,_,_⟩]) [] [0, 1, 2, 3, 4, 5, 6, 7, 8, 9, 10, 11, 12, 13, 14, 15] mixed (by kernel_rfl) rfl (by kernel_rfl) ?_
  refine r_move rfl rfl rfl (r_move rfl rfl rfl ?_)
  refine r_div (r := ((i / 4 : Nat) : Int)) rfl rfl rfl rfl (by omega) (congrArg some (quo_i _ 4 rfl rfl (by omega))) ?_
  refine r_indexAddr 0 (i / 4) u161 ti136 rfl rfl rfl rfl rfl (by omega) (by omega) (NV_ne (by rw [row_length]; omega)) (by show 0 + Int.toNat _ * 1 = _; omega) ?_
  refine r_load1 0 (i / 4) ti136 rfl rfl rfl rfl (NV_get (row_get (by omega))) ?_
  refine r_move rfl rfl rfl (r_move rfl rfl rfl ?_)
  refine r_idxS (b := UInt8.ofNat (n / 256 ^ i % 256)) (r := ((n / 256 ^ i % 256 : Nat) : Int)) u9 rfl rfl rfl rfl (by omega) (mag_at' n i hlt) (u8_nat _) ?_
  refine r_conv (r := ((n / 256 ^ i % 256 : Nat) : Int)) u5 u136 rfl rfl rfl (c32 _ rfl |>.trans (by rw [Nat.mod_eq_of_lt (by omega)])) ?_
  refine r_move rfl rfl rfl ?_
  refine r_div (r := ((i % 4 : Nat) : Int)) rfl rfl rfl rfl (by omega) (congrArg some (rem_n _ 4 rfl rfl)) ?_
  refine r_arith (r := ((8 * (i % 4) : Nat) : Int)) rfl rfl rfl rfl (congrArg some (wi (by omega) (by omega) (by omega))) ?_
  refine r_shift (r := ((2 ^ (8 * (i % 4)) * (n / 256 ^ i % 256) : Nat) : Int)) rfl rfl rfl rfl (by omega) (congrArg some ((shl_u32 _ _ rfl rfl (by omega) (by rw [Nat.mul_comm]; have := digT_sum n i; omega)).trans (by rw [Nat.mul_comm]))) ?_
  refine r_or (r := ((digT n i (i / 4) + 2 ^ (8 * (i % 4)) * (n / 256 ^ i % 256) : Nat) : Int)) rfl rfl rfl rfl (or_u32' (8 * (i % 4)) (digT_low n i) rfl (digT_sum n i) rfl rfl) ?_
  refine r_indexAddr 0 (i / 4) u161 ti136 rfl rfl rfl rfl rfl (by omega) (by omega) (NV_ne (by rw [row_length]; omega)) (by show 0 + Int.toNat _ * 1 = _; omega) ?_
  refine r_store1 rfl 0 (i / 4) [⟨some g0, 136, _, _, true⟩] (NV .u32 (row ((nb n + 3) / 4) (digT n (i + 1)))) ti136 rfl rfl rfl rfl rfl rfl rfl rfl (by rw [NV_length, row_length]; omega) (by rw [NV_set, row_set (fun j _ => digT_step' n i j)]) rfl ?_
  refine run_nil (at_bn (at_tn (at_region ?_)))
  refine r_arith (r := ((i + 1 : Nat) : Int)) rfl rfl rfl rfl (congrArg some (wi (by omega) (by omega) (by omega))) ?_
  refine r_move rfl rfl rfl (run_nil (at_tn ?_))
  exact nextL ⟨i + 1, hlt⟩ (by simp only []; omega) ⟨rfl, rfl, rfl, rfl, trivial⟩ (Weak.refl _)
 ·
  have hge : i = nb n := (by have := of_decide_eq_false hb1; omega)
  subst hge
  refine at_exit (at_te (at_te (at_be (at_tn (at_seq (at_region (r_move rfl rfl rfl (r_assign rfl rfl rfl (run_nil (at_tn (at_ret ?_)))))))))))
  refine at_end1 rfl (res_tmp rfl) (fun w hL => ⟨g0, ?_, ?_⟩)
  · rw [digB_len]
  · rw [digT_end] at hL; rw [digB_len]; exact hL
set_option maxRecDepth 20000 in
theorem c_nat_bytes (l : List Nat) (hl : ∀ d ∈ l, d < B32) (hn : l.length ≤ 67108872) {len : Nat} (hlen0 : l.length = len) (x : SR len) : SCall Tryz.prog 119 [⟨x.b, 136, NV .u32 l, x.n, false⟩] [x.v] Unit (fun _ => .string (mag (val B32 l))) (fun _ => []) := by
 refine ⟨by kernel_rfl, fun w hL0 => ?_⟩
 subst hlen0
 have hlen : (digs B32 (val B32 l)).length ≤ l.length := digs_length_le B32_two (val_lt (by decide) hl)
 generalize hN : val B32 l = N at *
 generalize hM : (digs B32 N).length = M at *
 have hx := x.h
 refine calls_at (args := [x.v]) Tryz.func119 rfl (Nat.le_of_ble_eq_true rfl) hL0 ?_
 show At w ⟨46, [(0, x.v)], [⟨x.b, 136, NV .u32 l, x.n, false⟩]⟩ _
 refine at_seq (at_region (r_assign rfl rfl rfl (run_nil (at_tn (at_seq (at_region (r_move rfl rfl rfl ?_)))))))
 refine r_scall0 [_] [0] rfl rfl rfl (c_nat_trim l hl (by omega) rfl x) ⟨⟨_, rfl, le_share⟩, trivial⟩ rfl ?_
 refine r_know 8 (slv x.b 0 M x.cap) rfl (by rw [hN, hM]) ?_
 refine r_assign rfl rfl rfl (run_nil (at_tn (at_seq (at_seq (at_region (r_move rfl rfl rfl ?_))))))
 refine r_lenS u161 rfl rfl rfl ?_
 refine r_cmpInt rfl rfl rfl rfl rfl (run_nil (at_tn ?_))
 refine at_cond rfl (fun hb0 => ?_) (fun hb0 => ?_)
 ·
  have h0 : M = 0 := by have := eq_of_beq hb0; omega
  refine at_seq (at_region (r_assign rfl rfl rfl (run_nil (at_tn (at_ret (at_tr ?_))))))
  refine at_end1 rfl (res_tmp rfl) (fun w hL => ⟨(), ?_, hL.picks [] trivial rfl rfl⟩)
  rw [bytes_zero hN hM h0]
 ·
  have h0 : M ≠ 0 := by have := ne_of_beq_false hb0; omega
  refine at_skip (at_tn (at_seq (at_region (r_move rfl rfl rfl ?_))))
  refine r_lenS u161 rfl rfl rfl ?_
  refine r_arith (r := ((4 * M : Nat) : Int)) rfl rfl rfl rfl (congrArg some (wi (by omega) (by omega) (by omega))) ?_
  refine q_makeSlice (c := 4 * M) (NV .u8 (row (4 * M) (bytT N (4 * M) 0))) (fun g => [_, ⟨some g, 5, _, _, true⟩]) u122 el5 rfl rfl rfl rfl rfl rfl (by omega) (by rw [row_congr (g := fun _ => 0) (fun j _ => bytT_zero N _ j), row_zero, NV_replicate]) (fun _ => rfl) (fun g0 => ?_)
  refine r_assign rfl rfl rfl (run_nil (at_tn (at_seq (at_seq (at_region (r_move rfl rfl rfl ?_))))))
  refine r_lenS u161 rfl rfl rfl ?_
  refine r_move rfl rfl rfl (run_nil (at_tn (at_block ?_)))
  refine enterL (nt := 46) (ι := {i : Nat // i ≤ M}) (fun ⟨i, hi⟩ => [(3, slv (some g0) 0 (4 * M) (4 * M)), (16, slv x.b 0 M x.cap), (17, .int .i64 (M : Nat)), (18, .int .i64 (i : Nat))]) (fun ⟨i, hi⟩ => [⟨x.b, 136, NV .u32 l, x.n, false⟩, ⟨some g0, 5, NV .u8 (row (4 * M) (bytT N (4 * M) (4 * i))), 4 * M, true⟩]) (fun ⟨i, hi⟩ => M - i) ⟨0, Nat.zero_le _⟩ ⟨rfl, rfl, rfl, rfl, trivial⟩ (Weak.refl _) ?_
  rintro ⟨i, hi⟩
  show At _ ⟨46, [(3, slv (some g0) 0 (4 * M) (4 * M)), (16, slv x.b 0 M x.cap), (17, .int .i64 (M : Nat)), (18, .int .i64 (i : Nat))], [⟨x.b, 136, NV .u32 l, x.n, false⟩, ⟨some g0, 5, NV .u8 (row (4 * M) (bytT N (4 * M) (4 * i))), 4 * M, true⟩]⟩ _
  refine at_seq (at_region (r_cmpInt rfl rfl rfl rfl rfl (run_nil (at_tn (at_seq ?_)))))
  refine at_cond rfl (fun hb2 => ?_) (fun hb2 => ?_)
  ·
   have hlt : i < M := (by have := of_decide_eq_true hb2; omega)
   refine at_skip (at_tn (at_seq (at_block (at_seq (at_region (r_move rfl rfl rfl ?_))))))
   refine r_indexAddr 0 (i) u161 ti136 rfl rfl rfl rfl rfl (by omega) (by omega) (NV_ne (by omega)) (by show 0 + Int.toNat _ * 1 = _; omega) ?_
   refine r_load1 0 (i) ti136 rfl rfl rfl rfl (NV_get (trim_get hl hN hM hlt)) ?_
   refine r_assign rfl rfl rfl (r_assign rfl rfl rfl (run_nil (at_tn (at_seq (at_region (r_move rfl rfl rfl (run_nil (at_tn (at_block ?_)))))))))
   refine enterL (nt := 46) (ι := {k : Nat // k ≤ 4}) (fun ⟨k, hk5⟩ => [(3, slv (some g0) 0 (4 * M) (4 * M)), (16, slv x.b 0 M x.cap), (17, .int .i64 (M : Nat)), (18, .int .i64 (i : Nat)), (4, .int .i64 (i : Nat)), (5, .int .u32 (N / B32 ^ i % B32 : Nat)), (23, .int .i64 (k : Nat))]) (fun ⟨k, hk5⟩ => [⟨x.b, 136, NV .u32 l, x.n, false⟩, ⟨some g0, 5, NV .u8 (row (4 * M) (bytT N (4 * M) (4 * i + k))), 4 * M, true⟩]) (fun ⟨k, hk5⟩ => 4 - k) ⟨0, Nat.zero_le _⟩ ⟨rfl, rfl, rfl, rfl, rfl, rfl, rfl, trivial⟩ (Weak.refl _) ?_
   rintro ⟨k, hk5⟩
   show At _ ⟨46, [(3, slv (some g0) 0 (4 * M) (4 * M)), (16, slv x.b 0 M x.cap), (17, .int .i64 (M : Nat)), (18, .int .i64 (i : Nat)), (4, .int .i64 (i : Nat)), (5, .int .u32 (N / B32 ^ i % B32 : Nat)), (23, .int .i64 (k : Nat))], [⟨x.b, 136, NV .u32 l, x.n, false⟩, ⟨some g0, 5, NV .u8 (row (4 * M) (bytT N (4 * M) (4 * i + k))), 4 * M, true⟩]⟩ _
   refine at_seq (at_region (r_cmpInt rfl rfl rfl rfl rfl (run_nil (at_tn (at_seq ?_)))))
   refine at_cond rfl (fun hb4 => ?_) (fun hb4 => ?_)
   ·
    have hk : k < 4 := (by have := of_decide_eq_true hb4; omega)
    refine at_skip (at_tn (at_seq (at_block (at_seq (at_region (r_move rfl rfl rfl (r_assign rfl rfl rfl (run_nil (at_tn (at_region (r_move rfl rfl rfl (r_move rfl rfl rfl ?_))))))))))))
    refine r_lenS u122 rfl rfl rfl ?_
    refine r_arith (r := ((4 * M - 1 : Nat) : Int)) rfl rfl rfl rfl (congrArg some (wi (by omega) (by omega) (by omega))) ?_
    refine r_move rfl rfl rfl ?_
    refine r_arith (r := ((4 * i : Nat) : Int)) rfl rfl rfl rfl (congrArg some (wi (by omega) (by omega) (by omega))) ?_
    refine r_arith (r := ((4 * M - 1 - 4 * i : Nat) : Int)) rfl rfl rfl rfl (congrArg some (wi (by omega) (by omega) (by omega))) ?_
    refine r_move rfl rfl rfl ?_
    refine r_arith (r := ((4 * M - 1 - (4 * i + k) : Nat) : Int)) rfl rfl rfl rfl (congrArg some (wi (by omega) (by omega) (by omega))) ?_
    refine r_move rfl rfl rfl (r_move rfl rfl rfl ?_)
    refine r_arith (r := ((8 * k : Nat) : Int)) rfl rfl rfl rfl (congrArg some (wi (by omega) (by omega) (by omega))) ?_
    refine r_shift (r := ((N / B32 ^ i % B32 / 2 ^ (8 * k) : Nat) : Int)) rfl rfl rfl rfl (by omega) (congrArg some (shr_u32 _ _ rfl rfl (by omega))) ?_
    refine r_conv (r := ((N / B32 ^ i % B32 / 2 ^ (8 * k) % 256 : Nat) : Int)) u136 u5 rfl rfl rfl (c8 _ rfl) ?_
    refine r_indexAddr 1 (4 * M - 1 - (4 * i + k)) u122 ti5 rfl rfl rfl rfl rfl (by omega) (by omega) (NV_ne (by rw [row_length]; omega)) (by show 0 + Int.toNat _ * 1 = _; omega) ?_
    refine r_store1 rfl 1 (4 * M - 1 - (4 * i + k)) [_, ⟨some g0, 5, _, _, true⟩] (NV .u8 (row (4 * M) (bytT N (4 * M) (4 * i + k + 1)))) ti5 rfl rfl rfl rfl rfl rfl rfl rfl (by rw [NV_length, row_length]; omega) (bytT_step N (4 * M) (4 * i + k) _ (by omega) (digit_byte N i k hk)) rfl ?_
    refine run_nil (at_bn (at_tn (at_region ?_)))
    refine r_arith (r := ((k + 1 : Nat) : Int)) rfl rfl rfl rfl (congrArg some (wi (by omega) (by omega) (by omega))) ?_
    refine r_move rfl rfl rfl (run_nil (at_tn ?_))
    exact nextL ⟨k + 1, hk⟩ (by simp only []; omega) ⟨rfl, rfl, rfl, rfl, rfl, rfl, rfl, trivial⟩ (Weak.refl _)
   ·
    have hk4 : k = 4 := (by have := of_decide_eq_false hb4; omega)
    subst hk4
    refine at_exit (at_te (at_te (at_be (at_bn (at_tn (at_region ?_))))))
    refine r_arith (r := ((i + 1 : Nat) : Int)) rfl rfl rfl rfl (congrArg some (wi (by omega) (by omega) (by omega))) ?_
    refine r_move rfl rfl rfl (run_nil (at_tn ?_))
    exact nextL ⟨i + 1, hlt⟩ (by simp only []; omega) ⟨rfl, rfl, rfl, rfl, trivial⟩ (Weak.refl _)
  ·
   have hge : i = M := (by have := of_decide_eq_false hb2; omega)
   subst hge
   refine at_exit (at_te (at_te (at_be (at_tn (at_seq (at_region (r_move rfl rfl rfl ?_)))))))
   refine r_convBS 1 u122 u5 u9 rfl rfl rfl rfl rfl (by rw [List.take_of_length_le (by rw [NV_length, row_length]; exact Nat.le_refl _)]) (row_length _ _) (strN_eq _) ?_
   refine r_pcall [_, _] rfl rfl rfl (c_strings_TrimLeft _) ?_
   refine r_assign rfl rfl rfl (run_nil (at_tn (at_ret ?_)))
   refine at_end1 rfl (res_tmp rfl) (fun w hL => ⟨(), ?_, hL.picks [] trivial rfl rfl⟩)
   rw [bytT_trim N (4 * i) (bytes_lt4 hM)]
end Go.Proofs.YtncogghlhlnmaaaGreatDoor
set_option linter.unusedVariables false
namespace Go.Proofs.YtncogghlhlnmaaaGreatDoor
open Go Go.RowKit Go.Via
set_option maxRecDepth 20000 in
theorem c_nat_short (m y : Nat) (hm : nb m ≤ 67108872) (hy : 0 < y) (hy2 : y < 4294967296) (g N cap : Nat) : MCall Tryz.prog 125 ⟨some g, 136, NV .u32 (digs B32 m), N, true⟩ [slv (some g) 0 (digs B32 m).length cap, .int .u32 (y : Nat)] (.int .u32 (m % y : Nat)) ⟨some g, 136, NV .u32 (row (digs B32 m).length (shoQ m y)), N, true⟩ := by
 refine ⟨by kernel_rfl, fun B w R hL0 => ?_⟩
 have hdm := dig_len_le hm
 refine calls_atB (args := [slv (some g) 0 (digs B32 m).length cap, .int .u32 (y : Nat)]) Tryz.func125 rfl (Nat.le_of_ble_eq_true rfl) hL0 ?_
 show At B ⟨36, [(0, slv (some g) 0 (digs B32 m).length cap), (1, .int .u32 (y : Nat))], (⟨some g, 136, NV .u32 (digs B32 m), N, true⟩ :: R)⟩ _
 refine at_seq (at_region (r_assign rfl rfl rfl (run_nil (at_tn (at_seq (at_region (r_assign rfl rfl rfl (run_nil (at_tn (at_seq (at_seq (at_region (r_move rfl rfl rfl ?_)))))))))))))
 refine r_lenS u161 rfl rfl rfl ?_
 refine r_arith (r := (((digs B32 m).length : Nat) : Int) - 1) rfl rfl rfl rfl (congrArg some (wi (by omega) (by omega) (by omega))) ?_
 refine r_assign rfl rfl rfl (run_nil (at_tn (at_block ?_)))
 refine enterL (nt := 36) (ι := {p : Nat // p ≤ (digs B32 m).length}) (fun ⟨p, hp⟩ => [(0, slv (some g) 0 (digs B32 m).length cap), (1, .int .u32 (y : Nat)), (5, .int .u64 (m / B32 ^ p % y : Nat)), (6, .int .i64 ((p : Nat) - 1))]) (fun ⟨p, hp⟩ => (⟨some g, 136, NV .u32 (row (digs B32 m).length (shoT m y p)), N, true⟩ :: R)) (fun ⟨p, hp⟩ => p) ⟨(digs B32 m).length, Nat.le_refl _⟩ ⟨rfl, rfl, (look_val rfl (by rw [shoR_start]; rfl)), rfl, trivial⟩ (weak_eq (congrArg (fun c => (⟨some g, 136, NV .u32 c, N, true⟩ : Blk) :: R) (shoT_start m y))) ?_
 rintro ⟨p, hp⟩
 show At _ ⟨36, [(0, slv (some g) 0 (digs B32 m).length cap), (1, .int .u32 (y : Nat)), (5, .int .u64 (m / B32 ^ p % y : Nat)), (6, .int .i64 ((p : Nat) - 1))], (⟨some g, 136, NV .u32 (row (digs B32 m).length (shoT m y p)), N, true⟩ :: R)⟩ _
 refine at_seq (at_seq (at_region (r_move rfl rfl rfl (r_cmpInt rfl rfl rfl rfl rfl (run_nil (at_tn ?_))))))
 refine at_cond rfl (fun hb1 => ?_) (fun hb1 => ?_)
 ·
  obtain ⟨q, rfl⟩ : ∃ q, p = q + 1 := ⟨p - 1, by have := of_decide_eq_true hb1; omega⟩
  refine at_know 6 (.int .i64 (q : Nat)) rfl (congrArg (Value.int .i64) (by omega)) ?_
  have hr1 := Nat.mod_lt (m / B32 ^ (q + 1)) hy
  have hx1 := B32_mod (m / B32 ^ q)
  have hw := shoW_lt64 m y q hy hy2
  refine at_skip (at_tn (at_seq (at_block (at_seq (at_region (r_move rfl rfl rfl ?_))))))
  refine r_shift (r := ((m / B32 ^ (q + 1) % y * 2 ^ 32 : Nat) : Int)) rfl rfl rfl rfl (by omega) (congrArg some (shl_u _ 32 rfl rfl (by omega) (by omega))) ?_
  refine r_move rfl rfl rfl ?_
  refine r_know 16 (slv (some g) 0 (digs B32 m).length cap) rfl rfl ?_
  refine r_move rfl rfl rfl ?_
  refine r_indexAddr 0 q u161 ti136 rfl rfl rfl rfl rfl (by omega) (by omega) (NV_ne (by rw [row_length]; omega)) (by show 0 + Int.toNat _ * 1 = _; omega) ?_
  refine r_load1 0 (q) ti136 rfl rfl rfl rfl (NV_get ((row_get (by omega)).trans (by rw [shoT_at]))) ?_
  refine r_conv (r := ((m / B32 ^ q % B32 : Nat) : Int)) u136 u116 rfl rfl rfl (c64 _ rfl (by omega)) ?_
  refine r_or (r := ((shoW m y q : Nat) : Int)) rfl rfl rfl rfl (or_u64 32 (B32_mod _) (by rw [Nat.mul_comm]; rfl) hw (by rw [Nat.mul_comm]) rfl) ?_
  refine r_assign rfl rfl rfl (run_nil (at_tn ?_))
  refine at_drawn (l' := [⟨_,_,_,_,_,_⟩, ⟨_,_,_,_,_,_⟩, ⟨_,_,_,_,_,_⟩, ⟨_,_,_,_,_,_⟩, ⟨_,_,_,_,_,_⟩, ⟨_,_,_,_,_,_⟩, ⟨_,_,_,_,_,_⟩, ⟨_,_,_,_,_,_⟩, ⟨_,_,_,_,_,_⟩, ⟨_,_,_,_,_,_⟩, ⟨_,_,_,_,_,_⟩, ⟨_,_,_,_,_,_⟩, ⟨_,_,_,_,_,_⟩, ⟨_,_,_,_,_,_⟩]) [0] [0, 1, 2, 3, 4, 5, 6, 7, 8, 9, 10, 11, 12, 13] mixed (by kernel_rfl) rfl (by kernel_rfl) ?_
  refine r_move rfl rfl rfl (r_move rfl rfl rfl (r_move rfl rfl rfl (r_move rfl rfl rfl ?_)))
  refine r_conv (r := ((y : Nat) : Int)) u136 u116 rfl rfl rfl (c64 _ rfl (by omega)) ?_
  refine r_div (r := ((shoW m y q / y : Nat) : Int)) rfl rfl rfl rfl (by omega) (congrArg some (quo_u _ _ rfl rfl (Nat.lt_of_le_of_lt (Nat.div_le_self _ _) hw))) ?_
  refine r_conv (r := ((shoW m y q / y % 4294967296 : Nat) : Int)) u116 u136 rfl rfl rfl (c32 _ rfl) ?_
  refine r_move rfl rfl rfl (r_move rfl rfl rfl ?_)
  refine r_conv (r := ((y : Nat) : Int)) u136 u116 rfl rfl rfl (c64 _ rfl (by omega)) ?_
  refine r_div (r := ((m / B32 ^ q % y : Nat) : Int)) rfl rfl rfl rfl (by omega) (congrArg some ((rem_n _ _ rfl rfl).trans (by rw [shoW_rem m y q hy]))) ?_
  refine r_indexAddrG (q) u161 ti136 rfl rfl rfl rfl (by omega) (by omega) (by show 0 + Int.toNat _ * 1 = _; omega) ?_
  refine r_store1E 0 (q) (⟨some g, 136, _, N, true⟩ :: R) (NV .u32 (row (digs B32 m).length (shoT m y q))) ti136 rfl rfl rfl rfl rfl rfl rfl rfl (by rw [NV_length, row_length]; omega) (by rw [NV_set, row_set (fun j _ => shoT_step m y q j hy)]) rfl rfl ?_
  refine r_assign rfl rfl rfl (run_nil (at_bn (at_tn (at_region (r_move rfl rfl rfl ?_)))))
  refine r_arith (r := ((q : Nat) : Int) - 1) rfl rfl rfl rfl (congrArg some (wi (by omega) (by omega) (by omega))) ?_
  refine r_assign rfl rfl rfl (run_nil (at_tn ?_))
  exact nextL ⟨q, by omega⟩ (by simp only []; omega) ⟨rfl, rfl, rfl, rfl, trivial⟩ (Weak.refl _)
 ·
  have hp0 : p = 0 := by have := of_decide_eq_false hb1; omega
  subst hp0
  refine at_exit (at_te (at_te (at_be (at_tn (at_seq (at_region (r_move rfl rfl rfl ?_)))))))
  refine r_conv (r := ((m % y : Nat) : Int)) u116 u136 rfl rfl rfl ((c32 _ (by rw [Nat.pow_zero, Nat.div_one])).trans (by rw [Nat.mod_eq_of_lt (Nat.lt_trans (Nat.mod_lt _ hy) hy2)])) ?_
  refine r_assign rfl rfl rfl (run_nil (at_tn (at_ret ?_)))
  refine at_end1 rfl (res_tmp rfl) (fun w hL => ⟨?_, hL⟩)
  exact rfl
set_option maxRecDepth 20000 in
theorem c_nat_shifted (m s : Nat) (hm : nb m ≤ 67108872) (hs : s < 32) (x : SR (digs B32 m).length) : SCall Tryz.prog 127 [⟨x.b, 136, NV .u32 (digs B32 m), x.n, false⟩] [x.v, .int .i64 (s : Nat)] Nat (fun g => slv (some g) 0 ((digs B32 m).length + 1) ((digs B32 m).length + 1)) (fun g => [⟨some g, 136, NV .u32 (row ((digs B32 m).length + 1) (shR (m * 2 ^ s))), (digs B32 m).length + 1, true⟩]) := by
 refine ⟨by kernel_rfl, fun w hL0 => ?_⟩
 have hdm := dig_len_le hm
 refine calls_at (args := [x.v, .int .i64 (s : Nat)]) Tryz.func127 rfl (Nat.le_of_ble_eq_true rfl) hL0 ?_
 show At w ⟨41, [(0, x.v), (1, .int .i64 (s : Nat))], [⟨x.b, 136, NV .u32 (digs B32 m), x.n, false⟩]⟩ _
 refine at_seq (at_region (r_assign rfl rfl rfl (run_nil (at_tn (at_seq (at_region (r_move rfl rfl rfl ?_)))))))
 refine r_lenS u161 rfl rfl rfl ?_
 refine r_arith (r := (((digs B32 m).length + 1 : Nat) : Int)) rfl rfl rfl rfl (congrArg some (wi (by omega) (by omega) (by omega))) ?_
 refine q_makeSlice (c := (digs B32 m).length + 1) (NV .u32 (row ((digs B32 m).length + 1) (shT m s 0))) (fun g => [_, ⟨some g, 136, _, _, true⟩]) u161 el136 rfl rfl rfl rfl rfl rfl (by omega) (by rw [row_congr (g := fun _ => 0) (fun j _ => shT_zero m s j), row_zero, NV_replicate]) (fun _ => rfl) (fun g0 => ?_)
 refine r_assign rfl rfl rfl (run_nil (at_tn (at_seq (at_seq (at_region (r_move rfl rfl rfl ?_))))))
 refine r_lenS u161 rfl rfl rfl ?_
 refine r_move rfl rfl rfl (run_nil (at_tn (at_block ?_)))
 refine enterL (nt := 41) (ι := {i : Nat // i ≤ (digs B32 m).length}) (fun ⟨i, hi⟩ => [(1, .int .i64 (s : Nat)), (5, slv (some g0) 0 ((digs B32 m).length + 1) ((digs B32 m).length + 1)), (13, x.v), (14, .int .i64 ((digs B32 m).length : Nat)), (15, .int .i64 (i : Nat))]) (fun ⟨i, hi⟩ => [⟨x.b, 136, NV .u32 (digs B32 m), x.n, false⟩, ⟨some g0, 136, NV .u32 (row ((digs B32 m).length + 1) (shT m s i)), (digs B32 m).length + 1, true⟩]) (fun ⟨i, hi⟩ => (digs B32 m).length - i) ⟨0, Nat.zero_le _⟩ ⟨rfl, rfl, rfl, rfl, rfl, trivial⟩ (Weak.refl _) ?_
 rintro ⟨i, hi⟩
 show At _ ⟨41, [(1, .int .i64 (s : Nat)), (5, slv (some g0) 0 ((digs B32 m).length + 1) ((digs B32 m).length + 1)), (13, x.v), (14, .int .i64 ((digs B32 m).length : Nat)), (15, .int .i64 (i : Nat))], [⟨x.b, 136, NV .u32 (digs B32 m), x.n, false⟩, ⟨some g0, 136, NV .u32 (row ((digs B32 m).length + 1) (shT m s i)), (digs B32 m).length + 1, true⟩]⟩ _
 refine at_seq (at_region (r_cmpInt rfl rfl rfl rfl rfl (run_nil (at_tn (at_seq ?_)))))
 refine at_cond rfl (fun hb1 => ?_) (fun hb1 => ?_)
 ·
  have hlt : i < (digs B32 m).length := (by have := of_decide_eq_true hb1; omega)
  have hx1 := B32_mod (m / B32 ^ i)
  refine at_skip (at_tn (at_seq (at_block (at_seq (at_region (r_move rfl rfl rfl ?_))))))
  refine r_indexAddr 0 (i) u161 ti136 rfl rfl rfl rfl rfl (by omega) (by omega) (NV_ne (by omega)) (by show 0 + Int.toNat _ * 1 = _; omega) ?_
  refine r_load1 0 (i) ti136 rfl rfl rfl rfl (NV_get (digs_get B32_two hlt)) ?_
  refine r_assign rfl rfl rfl (r_assign rfl rfl rfl (run_nil (at_tn (at_seq (at_region (r_move rfl rfl rfl ?_))))))
  refine r_conv (r := ((m / B32 ^ i % B32 : Nat) : Int)) u136 u116 rfl rfl rfl (c64 _ rfl (by omega)) ?_
  refine r_move rfl rfl rfl ?_
  refine r_shift (r := ((shW m s i : Nat) : Int)) rfl rfl rfl rfl (by omega) (congrArg some (shl_u _ _ rfl rfl (by omega) (shW_lt m s i hs))) ?_
  refine r_assign rfl rfl rfl (run_nil (at_tn (at_seq (at_region (r_move rfl rfl rfl (r_move rfl rfl rfl ?_))))))
  refine r_indexAddr 1 (i) u161 ti136 rfl rfl rfl rfl rfl (by omega) (by omega) (NV_ne (by rw [row_length]; omega)) (by show 0 + Int.toNat _ * 1 = _; omega) ?_
  refine r_load1 1 (i) ti136 rfl rfl rfl rfl (NV_get (row_get (by omega))) ?_
  refine r_move rfl rfl rfl ?_
  refine r_conv (r := ((shW m s i % 4294967296 : Nat) : Int)) u116 u136 rfl rfl rfl (c32 _ rfl) ?_
  refine r_or (r := ((shT m s (i + 1) i : Nat) : Int)) rfl rfl rfl rfl (sh_or m s i hs) ?_
  refine r_indexAddr 1 (i) u161 ti136 rfl rfl rfl rfl rfl (by omega) (by omega) (NV_ne (by rw [row_length]; omega)) (by show 0 + Int.toNat _ * 1 = _; omega) ?_
  refine r_store1 rfl 1 (i) [_, ⟨some g0, 136, _, _, true⟩] (NV .u32 (row ((digs B32 m).length + 1) (shM m s i))) ti136 rfl rfl rfl rfl rfl rfl rfl rfl (by rw [NV_length, row_length]; omega) (by rw [NV_set, row_set (g := shM m s i) (fun j _ => rfl)]) rfl ?_
  refine run_nil (at_tn (at_region (r_move rfl rfl rfl (r_move rfl rfl rfl ?_))))
  refine r_arith (r := ((i + 1 : Nat) : Int)) rfl rfl rfl rfl (congrArg some (wi (by omega) (by omega) (by omega))) ?_
  refine r_move rfl rfl rfl ?_
  refine r_shift (r := ((shW m s i / 2 ^ 32 : Nat) : Int)) rfl rfl rfl rfl (by omega) (congrArg some (shr_u _ 32 rfl rfl (by omega))) ?_
  refine r_conv (r := ((shW m s i / 2 ^ 32 % 4294967296 : Nat) : Int)) u116 u136 rfl rfl rfl (c32 _ rfl) ?_
  refine r_indexAddr 1 (i + 1) u161 ti136 rfl rfl rfl rfl rfl (by omega) (by omega) (NV_ne (by rw [row_length]; omega)) (by show 0 + Int.toNat _ * 1 = _; omega) ?_
  refine r_store1 rfl 1 (i + 1) [_, ⟨some g0, 136, _, _, true⟩] (NV .u32 (row ((digs B32 m).length + 1) (shT m s (i + 1)))) ti136 rfl rfl rfl rfl rfl rfl rfl rfl (by rw [NV_length, row_length]; omega) (by rw [NV_set, row_set (fun j _ => shT_step m s i j hs)]) rfl ?_
  refine run_nil (at_bn (at_tn (at_region ?_)))
  refine r_arith (r := ((i + 1 : Nat) : Int)) rfl rfl rfl rfl (congrArg some (wi (by omega) (by omega) (by omega))) ?_
  refine r_move rfl rfl rfl (run_nil (at_tn ?_))
  exact nextL ⟨i + 1, hlt⟩ (by simp only []; omega) ⟨rfl, rfl, rfl, rfl, rfl, trivial⟩ (Weak.refl _)
 ·
  have hge : i = (digs B32 m).length := (by have := of_decide_eq_false hb1; omega)
  subst hge
  refine at_exit (at_te (at_te (at_be (at_tn (at_seq (at_region (r_move rfl rfl rfl (r_assign rfl rfl rfl (run_nil (at_tn (at_ret ?_)))))))))))
  refine at_end1 rfl (res_tmp rfl) (fun w hL => ⟨g0, ?_, ?_⟩)
  · rfl
  · rw [row_congr (fun j _ => shT_end m s j)] at hL; exact hL.picks [some 1] ⟨⟨_, rfl, Blk.le_refl _⟩, trivial⟩ rfl rfl
end Go.Proofs.YtncogghlhlnmaaaGreatDoor
