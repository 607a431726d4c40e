/-
  Part 7: lemmas, and walks through the functions that the laws of chapter 26 call. Each theorem states its own conditions.
-/
import Derived.Test.YtncogghlhlnmaaaGreatDoorA05
import Derived.Test.YtncogghlhlnmaaaGreatDoorA06
set_option linter.unusedVariables false
set_option linter.unusedVariables false
namespace Go.Proofs.YtncogghlhlnmaaaGreatDoor
open Go Go.RowKit Go.Via
set_option maxHeartbeats 4000000 in
set_option maxRecDepth 20000 in
theorem c_integer_div (m n : Nat) (hm : nb m ≤ 67108864) (hn : nb n ≤ 67108864) (h0 : n ≠ 0) : PCall Tryz.prog 114 #[.string (mag m), .string (mag n)] (.tuple #[.string (mag (m / n)), .string (mag (m % n))]) := by
 have hdm := dig_len_le hm
 have hdn := dig_len_le hn
 have hLp := dig_pos h0
 refine ⟨by kernel_rfl, fun w => ?_⟩
 refine calls_at (args := [.string (mag m), .string (mag n)]) Tryz.func114 rfl (Nat.le_of_ble_eq_true rfl) (LRel.nil w) ?_
 show At w ⟨304, [(0, .string (mag m)), (1, .string (mag n))], []⟩ _
 refine at_seq (at_region (r_assign rfl rfl rfl (r_assign rfl rfl rfl (run_nil (at_tn (at_seq (at_seq (at_region (r_move rfl rfl rfl (r_move rfl rfl rfl ?_))))))))))
 refine r_pcall [_, _] rfl rfl rfl (c_integer_words _ _) ?_
 refine r_move rfl rfl rfl ?_
 refine r_extract (vs := [_, _, _]) rfl rfl rfl rfl ?_
 refine r_extract (vs := [_, _, _]) rfl rfl rfl rfl ?_
 refine r_extract (vs := [_, _, _]) rfl rfl rfl rfl ?_
 refine r_assign rfl rfl rfl (r_assign rfl rfl rfl (r_assign rfl rfl rfl (run_nil (at_tn (at_seq (at_region (r_move rfl rfl rfl (run_nil (at_tn ?_)))))))))
 refine at_cond rfl (fun hb0 => ?_) (fun hb0 => ?_)
 ·
  obtain ⟨hw1, hw2, hw3, hw4⟩ := words_T hb0
  refine at_know 6 (.int .u64 (m : Nat)) rfl (by rw [if_pos hw3]) ?_
  refine at_know 7 (.int .u64 (n : Nat)) rfl (by rw [if_pos hw4]) ?_
  refine at_seq ?_
  refine at_drawn (l' := [⟨_,_,_,_,_,_⟩, ⟨_,_,_,_,_,_⟩, ⟨_,_,_,_,_,_⟩, ⟨_,_,_,_,_,_⟩, ⟨_,_,_,_,_,_⟩, ⟨_,_,_,_,_,_⟩, ⟨_,_,_,_,_,_⟩, ⟨_,_,_,_,_,_⟩, ⟨_,_,_,_,_,_⟩, ⟨_,_,_,_,_,_⟩]) [] [0, 1, 2, 4, 5, 6, 3, 7, 8, 9] mixed (by kernel_rfl) rfl (by kernel_rfl) ?_
  refine r_move rfl rfl rfl (r_move rfl rfl rfl ?_)
  refine r_div (r := ((m / n : Nat) : Int)) rfl rfl rfl rfl (by omega) (congrArg some (quo_u _ _ rfl rfl (Nat.lt_of_le_of_lt (Nat.div_le_self _ _) hw1))) ?_
  refine r_move rfl rfl rfl (r_move rfl rfl rfl ?_)
  refine r_div (r := ((m % n : Nat) : Int)) rfl rfl rfl rfl (by omega) (congrArg some (rem_n _ _ rfl rfl)) ?_
  refine r_pcall [_] rfl rfl rfl (c_integer_magnitude _ (Nat.lt_of_le_of_lt (Nat.div_le_self _ _) hw1)) ?_
  refine r_pcall [_] rfl rfl rfl (c_integer_magnitude _ (Nat.lt_of_le_of_lt (Nat.mod_le _ _) hw1)) ?_
  refine r_assign rfl rfl rfl (r_assign rfl rfl rfl (run_nil (at_tn (at_ret (at_tr ?_)))))
  refine at_end2 rfl (res_tmp rfl) (res_tmp rfl) (fun w hL => ⟨?_, hL.below⟩)
  exact rfl
 ·
  refine at_skip (at_tn (at_seq (at_seq (at_region (r_move rfl rfl rfl (r_move rfl rfl rfl ?_))))))
  refine r_pcall [_, _] rfl rfl rfl (c_integer_compare _ _) ?_
  refine r_cmpInt rfl rfl rfl rfl rfl (run_nil (at_tn ?_))
  refine at_cond rfl (fun hb1 => ?_) (fun hb1 => ?_)
  ·
   have hlt0 := cmpN_true hb1
   refine at_seq (at_region (r_move rfl rfl rfl (r_assign rfl rfl rfl (r_assign rfl rfl rfl (run_nil (at_tn (at_ret (at_tr ?_))))))))
   refine at_end2 rfl (res_tmp rfl) (res_tmp rfl) (fun w hL => ⟨?_, hL.below⟩)
   rw [Nat.div_eq_of_lt hlt0, Nat.mod_eq_of_lt hlt0, mag_zero]
  ·
   have hmn := cmpN_false hb1
   have hLL : (digs B32 n).length ≤ (digs B32 m).length := digs_length_mono B32_two hmn
   refine at_skip (at_tn (at_seq (at_region (r_move rfl rfl rfl ?_))))
   refine r_scall [_] [] rfl rfl rfl (c_integer_digits n (by omega)) trivial rfl (.inr fun x b hb => by rw [List.mem_singleton.1 hb]) (fun g0 => ?_)
   refine r_assign rfl rfl rfl (run_nil (at_tn (at_seq (at_seq (at_region (r_move rfl rfl rfl (r_lenS u161 rfl rfl rfl (r_cmpInt rfl rfl rfl rfl rfl (run_nil (at_tn ?_))))))))))
   refine at_cond rfl (fun hb2 => ?_) (fun hb2 => ?_)
   ·
    have h1 : (digs B32 n).length = 1 := by have := eq_of_beq hb2; omega
    have hn1 := one_dig h1
    refine at_seq (at_region (r_move rfl rfl rfl ?_))
    refine r_scall [_] [] rfl rfl rfl (c_integer_digits m (by omega)) trivial rfl (.inr fun x b hb => by rw [List.mem_singleton.1 hb]) (fun g1 => ?_)
    refine r_assign rfl rfl rfl (run_nil (at_tn (at_seq (at_regionM (r_move rfl rfl rfl (r_move rfl rfl rfl ?_))))))
    refine r_indexAddr 0 (0) u161 ti136 rfl rfl rfl rfl rfl (by omega) (by omega) (NV_ne (by omega)) (by show 0 + Int.toNat _ * 1 = _; omega) ?_
    refine r_load1 0 (0) ti136 rfl rfl rfl rfl (NV_get (digs_one h1 hn1)) ?_
    refine r_mcall [_, _] 1 [_, _] rfl rfl rfl rfl (c_nat_short m n (by omega) (by omega) hn1 g1 _ _) rfl rfl ?_
    refine r_assign rfl rfl rfl (run_nil (at_tn (at_seq (at_region (r_move rfl rfl rfl ?_)))))
    refine r_scall0 [_] [1] rfl rfl rfl (c_nat_bytes (row (digs B32 m).length (shoQ m n)) (row_lt fun j => B32_mod _) (by rw [row_length]; omega) (row_length _ _) ⟨some g1, _, _, Nat.le_refl _⟩) ⟨⟨_, rfl, le_share⟩, trivial⟩ rfl ?_
    refine r_move rfl rfl rfl ?_
    refine r_conv (r := ((m % n : Nat) : Int)) u136 u116 rfl rfl rfl (c64 _ rfl (Nat.lt_trans (Nat.mod_lt _ (by omega)) (by omega))) ?_
    refine r_pcall [_] rfl rfl rfl (c_integer_magnitude _ (Nat.lt_trans (Nat.mod_lt _ (Nat.pos_of_ne_zero h0)) (Nat.lt_trans hn1 (by decide)))) ?_
    refine r_assign rfl rfl rfl (r_assign rfl rfl rfl (run_nil (at_tn (at_ret (at_tr ?_)))))
    refine at_end2 rfl (res_tmp rfl) (res_tmp rfl) (fun w hL => ⟨?_, hL.below⟩)
    rw [shoQ_val]
   ·
    have hL2 : 2 ≤ (digs B32 n).length := by have := ne_of_beq_false hb2; omega
    refine at_skip (at_tn (at_seq (at_region (r_move rfl rfl rfl (r_move rfl rfl rfl (r_lenS u161 rfl rfl rfl ?_))))))
    refine r_arith (r := (((digs B32 n).length - 1 : Nat) : Int)) rfl rfl rfl rfl (congrArg some (wi (by omega) (by omega) (by omega))) ?_
    refine r_indexAddr 0 ((digs B32 n).length - 1) u161 ti136 rfl rfl rfl rfl rfl (by omega) (by omega) (NV_ne (by omega)) (by show 0 + Int.toNat _ * 1 = _; omega) ?_
    refine r_load1 0 ((digs B32 n).length - 1) ti136 rfl rfl rfl rfl (NV_get (digs_get B32_two (by omega))) ?_
    refine r_pcall [_] rfl rfl rfl (c_math_bits_LeadingZeros32 _ (B32_mod _)) ?_
    obtain ⟨s, hs, hsv, hn1, hn2⟩ := norm_s h0
    refine r_know 73 (.int .i64 (s : Nat)) rfl (congrArg (Value.int .i64) hsv) ?_
    have hXM := dv_init (m := m) hs hLL hn1
    refine r_assign rfl rfl rfl (run_nil (at_tn (at_seq (at_region (r_move rfl rfl rfl ?_)))))
    refine r_scall [_] [] rfl rfl rfl (c_integer_digits m (by omega)) trivial rfl (.inr fun x b hb => by rw [List.mem_singleton.1 hb]) (fun g1 => ?_)
    refine r_move rfl rfl rfl ?_
    refine r_scall [_, _] [1] rfl rfl rfl (c_nat_shifted m s (by omega) hs ⟨some g1, _, _, Nat.le_refl _⟩) ⟨⟨_, rfl, le_share⟩, trivial⟩ rfl (.inr fun x b hb => by rw [List.mem_singleton.1 hb]) (fun g2 => ?_)
    refine r_assign rfl rfl rfl (run_nil (at_tn (at_seq (at_region (r_move rfl rfl rfl (r_move rfl rfl rfl ?_))))))
    refine r_scall [_, _] [0] rfl rfl rfl (c_nat_shifted n s (by omega) hs ⟨some g0, _, _, Nat.le_refl _⟩) ⟨⟨_, rfl, le_share⟩, trivial⟩ rfl (.inr fun x b hb => by rw [List.mem_singleton.1 hb]) (fun g3 => ?_)
    refine r_move rfl rfl rfl (r_lenS u161 rfl rfl rfl ?_)
    refine r_sliceH ((digs B32 n).length) u161 ti136 rfl rfl rfl rfl (by omega) (by omega) (by omega) ?_
    refine r_assign rfl rfl rfl (run_nil (at_tn (at_seq (at_region (r_move rfl rfl rfl (r_lenS u161 rfl rfl rfl (r_assign rfl rfl rfl (run_nil (at_tn (at_seq (at_region (r_move rfl rfl rfl (r_lenS u161 rfl rfl rfl (r_move rfl rfl rfl ?_))))))))))))))
    refine r_arith (r := ((((digs B32 m).length + 1 - (digs B32 n).length) : Nat) : Int)) rfl rfl rfl rfl (congrArg some (wi (by omega) (by omega) (by omega))) ?_
    refine q_makeSlice (c := ((digs B32 m).length + 1 - (digs B32 n).length)) (NV .u32 (row ((digs B32 m).length + 1 - (digs B32 n).length) (outT (m * 2 ^ s) (n * 2 ^ s) ((digs B32 m).length + 1 - (digs B32 n).length)))) (fun g => [_, _, _, _, ⟨some g, 136, _, _, true⟩]) u161 el136 rfl rfl rfl rfl rfl rfl (by omega) (by rw [row_congr (g := fun _ => 0) (fun k hk => by unfold outT; rw [if_pos hk]), row_zero, NV_replicate]) (fun _ => rfl) (fun g4 => ?_)
    refine r_assign rfl rfl rfl (run_nil (at_tn (at_seq (at_seq (at_region (r_move rfl rfl rfl (r_lenS u161 rfl rfl rfl ?_)))))))
    refine r_arith (r := ((((digs B32 m).length + 1 - (digs B32 n).length) : Nat) : Int) - 1) rfl rfl rfl rfl (congrArg some (wi (by omega) (by omega) (by omega))) ?_
    refine r_assign rfl rfl rfl (run_nil (at_tn (at_block ?_)))
    refine enterL (nt := 304) (ι := {p : Nat // p ≤ ((digs B32 m).length + 1 - (digs B32 n).length)}) (fun ⟨p, hp⟩ => [(9, slv (some g3) 0 (digs B32 n).length ((digs B32 n).length + 1)), (12, .int .i64 (s : Nat)), (13, slv (some g2) 0 ((digs B32 m).length + 1) ((digs B32 m).length + 1)), (14, .int .i64 ((digs B32 n).length : Nat)), (15, slv (some g4) 0 ((digs B32 m).length + 1 - (digs B32 n).length) ((digs B32 m).length + 1 - (digs B32 n).length)), (16, .int .i64 ((p : Nat) - 1))]) (fun ⟨p, hp⟩ => [⟨some g3, 136, NV .u32 (row ((digs B32 n).length + 1) (shR (n * 2 ^ s))), (digs B32 n).length + 1, true⟩, ⟨some g2, 136, NV .u32 (row ((digs B32 m).length + 1) (xw (m * 2 ^ s) p ((m * 2 ^ s) / B32 ^ p % (n * 2 ^ s)))), (digs B32 m).length + 1, true⟩, ⟨some g4, 136, NV .u32 (row ((digs B32 m).length + 1 - (digs B32 n).length) (outT (m * 2 ^ s) (n * 2 ^ s) (p))), ((digs B32 m).length + 1 - (digs B32 n).length), true⟩]) (fun ⟨p, hp⟩ => p) ⟨((digs B32 m).length + 1 - (digs B32 n).length), Nat.le_refl _⟩ ⟨rfl, rfl, rfl, rfl, rfl, rfl, trivial⟩ (weak_picks [some 3, some 2, some 4] ⟨⟨_, rfl, Blk.le_refl _⟩, ⟨_, rfl, le_same (congrArg (fun c => (⟨some g2, 136, NV .u32 c, (digs B32 m).length + 1, true⟩ : Blk)) (row_congr fun k _ => (xw_init hXM).symm))⟩, ⟨_, rfl, Blk.le_refl _⟩, trivial⟩ rfl rfl) ?_
    rintro ⟨p, hp⟩
    show At _ ⟨304, [(9, slv (some g3) 0 (digs B32 n).length ((digs B32 n).length + 1)), (12, .int .i64 (s : Nat)), (13, slv (some g2) 0 ((digs B32 m).length + 1) ((digs B32 m).length + 1)), (14, .int .i64 ((digs B32 n).length : Nat)), (15, slv (some g4) 0 ((digs B32 m).length + 1 - (digs B32 n).length) ((digs B32 m).length + 1 - (digs B32 n).length)), (16, .int .i64 ((p : Nat) - 1))], [⟨some g3, 136, NV .u32 (row ((digs B32 n).length + 1) (shR (n * 2 ^ s))), (digs B32 n).length + 1, true⟩, ⟨some g2, 136, NV .u32 (row ((digs B32 m).length + 1) (xw (m * 2 ^ s) p ((m * 2 ^ s) / B32 ^ p % (n * 2 ^ s)))), (digs B32 m).length + 1, true⟩, ⟨some g4, 136, NV .u32 (row ((digs B32 m).length + 1 - (digs B32 n).length) (outT (m * 2 ^ s) (n * 2 ^ s) (p))), ((digs B32 m).length + 1 - (digs B32 n).length), true⟩]⟩ _
    refine at_seq (at_seq (at_region (r_move rfl rfl rfl (r_cmpInt rfl rfl rfl rfl rfl (run_nil (at_tn ?_))))))
    refine at_cond rfl (fun hb4 => ?_) (fun hb4 => ?_)
    ·
     obtain ⟨j, rfl⟩ : ∃ j, p = j + 1 := ⟨p - 1, by have := of_decide_eq_true hb4; omega⟩
     refine at_know 16 (.int .i64 (j : Nat)) rfl (congrArg (Value.int .i64) (by omega)) ?_
     have hyp : 0 < (n * 2 ^ s) := by have := B32_pos (digs B32 n).length; omega
     have hd : DvH (n * 2 ^ s) (dvW (m * 2 ^ s) (n * 2 ^ s) j) (digs B32 n).length := ⟨hL2, hn1, hn2, dvW_lt _ _ j hyp⟩
     have hqq := dvW_quo (m * 2 ^ s) (n * 2 ^ s) j hyp
     have hr := dvW_rem (m * 2 ^ s) (n * 2 ^ s) j hyp
     generalize hW : dvW (m * 2 ^ s) (n * 2 ^ s) j = W at hd hqq hr
     have hwL := B32_mod (W / B32 ^ (digs B32 n).length)
     have hwL1 := B32_mod (W / B32 ^ ((digs B32 n).length - 1))
     have hwL2 := B32_mod (W / B32 ^ ((digs B32 n).length - 2))
     have hyL2 := B32_mod ((n * 2 ^ s) / B32 ^ ((digs B32 n).length - 2))
     have hyt := hd.y1
     have hw64 := hd.high64
     refine at_skip (at_tn (at_seq (at_block (at_seq ?_))))
     refine at_drawn (l' := [⟨_,_,_,_,_,_⟩, ⟨_,_,_,_,_,_⟩, ⟨_,_,_,_,_,_⟩, ⟨_,_,_,_,_,_⟩, ⟨_,_,_,_,_,_⟩, ⟨_,_,_,_,_,_⟩, ⟨_,_,_,_,_,_⟩, ⟨_,_,_,_,_,_⟩, ⟨_,_,_,_,_,_⟩, ⟨_,_,_,_,_,_⟩, ⟨_,_,_,_,_,_⟩, ⟨_,_,_,_,_,_⟩, ⟨_,_,_,_,_,_⟩, ⟨_,_,_,_,_,_⟩, ⟨_,_,_,_,_,_⟩, ⟨_,_,_,_,_,_⟩, ⟨_,_,_,_,_,_⟩, ⟨_,_,_,_,_,_⟩]) [] [0, 1, 2, 3, 4, 5, 6, 7, 8, 9, 10, 11, 12, 13, 14, 15, 16, 17] mixed (by kernel_rfl) rfl (by kernel_rfl) ?_
     refine r_move rfl rfl rfl (r_move rfl rfl rfl (r_move rfl rfl rfl ?_))
     refine r_arith (r := (((digs B32 n).length + j : Nat) : Int)) rfl rfl rfl rfl (congrArg some (wi (by omega) (by omega) (by omega))) ?_
     refine r_indexAddr 1 ((digs B32 n).length + j) u161 ti136 rfl rfl rfl rfl rfl (by omega) (by omega) (NV_ne (by rw [row_length]; omega)) (by show 0 + Int.toNat _ * 1 = _; omega) ?_
     refine r_load1 1 ((digs B32 n).length + j) ti136 rfl rfl rfl rfl (NV_get ((row_get (by omega)).trans (congrArg some (xw_load hW (digs B32 n).length)))) ?_
     refine r_conv (r := ((W / B32 ^ (digs B32 n).length % B32 : Nat) : Int)) u136 u116 rfl rfl rfl (c64 _ rfl (by omega)) ?_
     refine r_shift (r := ((W / B32 ^ (digs B32 n).length % B32 * 2 ^ 32 : Nat) : Int)) rfl rfl rfl rfl (by omega) (congrArg some (shl_u _ 32 rfl rfl (by omega) (by omega))) ?_
     refine r_move rfl rfl rfl (r_move rfl rfl rfl (r_move rfl rfl rfl ?_))
     refine r_arith (r := (((digs B32 n).length + j : Nat) : Int)) rfl rfl rfl rfl (congrArg some (wi (by omega) (by omega) (by omega))) ?_
     refine r_arith (r := (((digs B32 n).length - 1 + j : Nat) : Int)) rfl rfl rfl rfl (congrArg some (wi (by omega) (by omega) (by omega))) ?_
     refine r_indexAddr 1 ((digs B32 n).length - 1 + j) u161 ti136 rfl rfl rfl rfl rfl (by omega) (by omega) (NV_ne (by rw [row_length]; omega)) (by show 0 + Int.toNat _ * 1 = _; omega) ?_
     refine r_load1 1 ((digs B32 n).length - 1 + j) ti136 rfl rfl rfl rfl (NV_get ((row_get (by omega)).trans (congrArg some (xw_load hW ((digs B32 n).length - 1))))) ?_
     refine r_conv (r := ((W / B32 ^ ((digs B32 n).length - 1) % B32 : Nat) : Int)) u136 u116 rfl rfl rfl (c64 _ rfl (by omega)) ?_
     refine r_or (r := ((W / B32 ^ ((digs B32 n).length - 1) : Nat) : Int)) rfl rfl rfl rfl (or_u64 32 (B32_mod _) hd.whigh hw64 (by rw [Nat.mul_comm]) rfl) ?_
     refine r_assign rfl rfl rfl (run_nil (at_tn (at_seq ?_)))
     refine at_drawn (l' := [⟨_,_,_,_,_,_⟩, ⟨_,_,_,_,_,_⟩, ⟨_,_,_,_,_,_⟩, ⟨_,_,_,_,_,_⟩, ⟨_,_,_,_,_,_⟩, ⟨_,_,_,_,_,_⟩, ⟨_,_,_,_,_,_⟩, ⟨_,_,_,_,_,_⟩, ⟨_,_,_,_,_,_⟩, ⟨_,_,_,_,_,_⟩, ⟨_,_,_,_,_,_⟩, ⟨_,_,_,_,_,_⟩, ⟨_,_,_,_,_,_⟩, ⟨_,_,_,_,_,_⟩, ⟨_,_,_,_,_,_⟩, ⟨_,_,_,_,_,_⟩, ⟨_,_,_,_,_,_⟩, ⟨_,_,_,_,_,_⟩]) [2000000] [0, 1, 2, 3, 4, 5, 6, 7, 8, 9, 10, 11, 12, 13, 14, 15, 16, 17] mixed (by kernel_rfl) rfl (by kernel_rfl) ?_
     refine r_move rfl rfl rfl (r_move rfl rfl rfl (r_move rfl rfl rfl ?_))
     refine r_arith (r := (((digs B32 n).length - 1 : Nat) : Int)) rfl rfl rfl rfl (congrArg some (wi (by omega) (by omega) (by omega))) ?_
     refine r_indexAddr 0 ((digs B32 n).length - 1) u161 ti136 rfl rfl rfl rfl rfl (by omega) (by omega) (NV_ne (by rw [row_length]; omega)) (by show 0 + Int.toNat _ * 1 = _; omega) ?_
     refine r_load1 0 ((digs B32 n).length - 1) ti136 rfl rfl rfl rfl (NV_get ((row_get (by omega)).trans (congrArg some (hd.ytop)))) ?_
     refine r_conv (r := (((n * 2 ^ s) / B32 ^ ((digs B32 n).length - 1) : Nat) : Int)) u136 u116 rfl rfl rfl (c64 _ rfl (by omega)) ?_
     refine r_div (r := ((W / B32 ^ ((digs B32 n).length - 1) / ((n * 2 ^ s) / B32 ^ ((digs B32 n).length - 1)) : Nat) : Int)) rfl rfl rfl rfl (by omega) (congrArg some (quo_u _ _ rfl rfl (Nat.lt_of_le_of_lt (Nat.div_le_self _ _) hw64))) ?_
     refine r_move rfl rfl rfl (r_move rfl rfl rfl (r_move rfl rfl rfl ?_))
     refine r_arith (r := (((digs B32 n).length - 1 : Nat) : Int)) rfl rfl rfl rfl (congrArg some (wi (by omega) (by omega) (by omega))) ?_
     refine r_indexAddr 0 ((digs B32 n).length - 1) u161 ti136 rfl rfl rfl rfl rfl (by omega) (by omega) (NV_ne (by rw [row_length]; omega)) (by show 0 + Int.toNat _ * 1 = _; omega) ?_
     refine r_load1 0 ((digs B32 n).length - 1) ti136 rfl rfl rfl rfl (NV_get ((row_get (by omega)).trans (congrArg some (hd.ytop)))) ?_
     refine r_conv (r := (((n * 2 ^ s) / B32 ^ ((digs B32 n).length - 1) : Nat) : Int)) u136 u116 rfl rfl rfl (c64 _ rfl (by omega)) ?_
     refine r_div (r := ((W / B32 ^ ((digs B32 n).length - 1) % ((n * 2 ^ s) / B32 ^ ((digs B32 n).length - 1)) : Nat) : Int)) rfl rfl rfl rfl (by omega) (congrArg some (rem_n _ _ rfl rfl)) ?_
     refine r_assign rfl rfl rfl (r_assign rfl rfl rfl (run_nil (at_tn (at_seq (at_block ?_)))))
     refine enterL (nt := 304) (ι := {x : Nat × Nat // GOK (n * 2 ^ s) W (digs B32 n).length x.1 x.2}) (fun ⟨⟨g, r⟩, hg⟩ => [(9, slv (some g3) 0 (digs B32 n).length ((digs B32 n).length + 1)), (12, .int .i64 (s : Nat)), (13, slv (some g2) 0 ((digs B32 m).length + 1) ((digs B32 m).length + 1)), (14, .int .i64 ((digs B32 n).length : Nat)), (15, slv (some g4) 0 ((digs B32 m).length + 1 - (digs B32 n).length) ((digs B32 m).length + 1 - (digs B32 n).length)), (16, .int .i64 (j : Nat)), (18, .int .u64 (g : Nat)), (19, .int .u64 (r : Nat))]) (fun ⟨⟨g, r⟩, hg⟩ => [⟨some g3, 136, NV .u32 (row ((digs B32 n).length + 1) (shR (n * 2 ^ s))), (digs B32 n).length + 1, true⟩, ⟨some g2, 136, NV .u32 (row ((digs B32 m).length + 1) (xw (m * 2 ^ s) (j + 1) ((m * 2 ^ s) / B32 ^ (j + 1) % (n * 2 ^ s)))), (digs B32 m).length + 1, true⟩, ⟨some g4, 136, NV .u32 (row ((digs B32 m).length + 1 - (digs B32 n).length) (outT (m * 2 ^ s) (n * 2 ^ s) (j + 1))), ((digs B32 m).length + 1 - (digs B32 n).length), true⟩]) (fun ⟨⟨g, r⟩, hg⟩ => g) ⟨(_, _), g_start hd⟩ ⟨rfl, rfl, rfl, rfl, rfl, rfl, rfl, rfl, trivial⟩ (Weak.refl _) ?_
     rintro ⟨⟨g, r⟩, hg⟩
     show At _ ⟨304, [(9, slv (some g3) 0 (digs B32 n).length ((digs B32 n).length + 1)), (12, .int .i64 (s : Nat)), (13, slv (some g2) 0 ((digs B32 m).length + 1) ((digs B32 m).length + 1)), (14, .int .i64 ((digs B32 n).length : Nat)), (15, slv (some g4) 0 ((digs B32 m).length + 1 - (digs B32 n).length) ((digs B32 m).length + 1 - (digs B32 n).length)), (16, .int .i64 (j : Nat)), (18, .int .u64 (g : Nat)), (19, .int .u64 (r : Nat))], [⟨some g3, 136, NV .u32 (row ((digs B32 n).length + 1) (shR (n * 2 ^ s))), (digs B32 n).length + 1, true⟩, ⟨some g2, 136, NV .u32 (row ((digs B32 m).length + 1) (xw (m * 2 ^ s) (j + 1) ((m * 2 ^ s) / B32 ^ (j + 1) % (n * 2 ^ s)))), (digs B32 m).length + 1, true⟩, ⟨some g4, 136, NV .u32 (row ((digs B32 m).length + 1 - (digs B32 n).length) (outT (m * 2 ^ s) (n * 2 ^ s) (j + 1))), ((digs B32 m).length + 1 - (digs B32 n).length), true⟩]⟩ _
     refine at_seq (at_seq ?_)
     refine at_drawn (l' := [⟨_,_,_,_,_,_⟩, ⟨_,_,_,_,_,_⟩, ⟨_,_,_,_,_,_⟩, ⟨_,_,_,_,_,_⟩, ⟨_,_,_,_,_,_⟩, ⟨_,_,_,_,_,_⟩, ⟨_,_,_,_,_,_⟩, ⟨_,_,_,_,_,_⟩, ⟨_,_,_,_,_,_⟩, ⟨_,_,_,_,_,_⟩, ⟨_,_,_,_,_,_⟩, ⟨_,_,_,_,_,_⟩, ⟨_,_,_,_,_,_⟩, ⟨_,_,_,_,_,_⟩, ⟨_,_,_,_,_,_⟩, ⟨_,_,_,_,_,_⟩, ⟨_,_,_,_,_,_⟩, ⟨_,_,_,_,_,_⟩, ⟨_,_,_,_,_,_⟩, ⟨_,_,_,_,_,_⟩, ⟨_,_,_,_,_,_⟩, ⟨_,_,_,_,_,_⟩, ⟨_,_,_,_,_,_⟩, ⟨_,_,_,_,_,_⟩]) [] [0, 1, 2, 3, 4, 5, 6, 7, 8, 9, 10, 11, 12, 13, 14, 15, 16, 17, 18, 19, 20, 21, 22, 23] mixed (by kernel_rfl) rfl (by kernel_rfl) ?_
     refine r_move rfl rfl rfl (r_cmpInt rfl rfl rfl rfl rfl (r_move rfl rfl rfl ?_))
     refine r_split 133 rfl (fun hb6 => ?_) (fun hb6 => ?_)
     ·
      have hq := g_test hd hg (.inl (by have := of_decide_eq_true hb6; omega))
      have hg0 : 0 < g := Nat.lt_of_le_of_lt (Nat.zero_le _) hq
      have hgb := hg.2.1
      have hgc := hg.2.2.2
      refine r_no rfl rfl rfl (r_no rfl rfl rfl (r_no rfl rfl rfl (r_no rfl rfl rfl (r_no rfl rfl rfl (r_no rfl rfl rfl (r_no rfl rfl rfl (r_no rfl rfl rfl (r_no rfl rfl rfl (r_no rfl rfl rfl (r_no rfl rfl rfl (r_no rfl rfl rfl (r_no rfl rfl rfl (r_no rfl rfl rfl (r_no rfl rfl rfl (r_no rfl rfl rfl (r_no rfl rfl rfl (r_no rfl rfl rfl (r_no rfl rfl rfl (r_no rfl rfl rfl (r_pickT rfl rfl rfl rfl (run_nil (at_tn (at_condT rfl (at_skip (at_tn (at_block (at_seq (at_region (r_move rfl rfl rfl ?_)))))))))))))))))))))))))))))
      refine r_arith (r := ((g - 1 : Nat) : Int)) rfl rfl rfl rfl (congrArg some (c64 _ (by omega) (by omega))) ?_
      refine r_assign rfl rfl rfl (run_nil (at_tn (at_seq (at_region (r_move rfl rfl rfl (r_move rfl rfl rfl (r_move rfl rfl rfl ?_)))))))
      refine r_arith (r := (((digs B32 n).length - 1 : Nat) : Int)) rfl rfl rfl rfl (congrArg some (wi (by omega) (by omega) (by omega))) ?_
      refine r_indexAddr 0 ((digs B32 n).length - 1) u161 ti136 rfl rfl rfl rfl rfl (by omega) (by omega) (NV_ne (by rw [row_length]; omega)) (by show 0 + Int.toNat _ * 1 = _; omega) ?_
      refine r_load1 0 ((digs B32 n).length - 1) ti136 rfl rfl rfl rfl (NV_get ((row_get (by omega)).trans (congrArg some (hd.ytop)))) ?_
      refine r_conv (r := (((n * 2 ^ s) / B32 ^ ((digs B32 n).length - 1) : Nat) : Int)) u136 u116 rfl rfl rfl (c64 _ rfl (by omega)) ?_
      refine r_arith (r := ((r + (n * 2 ^ s) / B32 ^ ((digs B32 n).length - 1) : Nat) : Int)) rfl rfl rfl rfl (congrArg some (c64 _ rfl (by omega))) ?_
      refine r_assign rfl rfl rfl (run_nil (at_tn (at_seq (at_region (r_move rfl rfl rfl (r_cmpInt rfl rfl rfl rfl rfl (run_nil (at_tn ?_))))))))
      refine at_cond rfl (fun hb7 => ?_) (fun hb7 => ?_)
      ·
       obtain ⟨G, hG1, hG2, hG3, hG4⟩ : ∃ G, G = g - 1 ∧ W / (n * 2 ^ s) ≤ G ∧ G ≤ W / (n * 2 ^ s) + 1 ∧ G ≤ 4294967296 := ⟨g - 1, rfl, by omega, g_end2 hd hg hq (by have := of_decide_eq_true hb7; omega), by omega⟩
       refine at_know 18 (.int .u64 (G : Nat)) rfl (by rw [hG1]) ?_
       refine at_exit (at_bne rfl (at_te (at_be (at_tn (at_seq (at_region (r_assign rfl rfl rfl (r_assign rfl rfl rfl (run_nil (at_tn (at_seq (at_seq (at_region (r_move rfl rfl rfl (r_move rfl rfl rfl (run_nil (at_tn (at_block ?_))))))))))))))))))
       refine enterL (nt := 304) (ι := {i : Nat // i ≤ (digs B32 n).length}) (fun ⟨i, hi⟩ => [(9, slv (some g3) 0 (digs B32 n).length ((digs B32 n).length + 1)), (12, .int .i64 (s : Nat)), (13, slv (some g2) 0 ((digs B32 m).length + 1) ((digs B32 m).length + 1)), (14, .int .i64 ((digs B32 n).length : Nat)), (15, slv (some g4) 0 ((digs B32 m).length + 1 - (digs B32 n).length) ((digs B32 m).length + 1 - (digs B32 n).length)), (16, .int .i64 (j : Nat)), (18, .int .u64 (G : Nat)), (20, .int .i64 (subB (W + B32 ^ ((digs B32 n).length + 1)) (G * (n * 2 ^ s)) (i) : Nat)), (21, .int .u64 (gC (n * 2 ^ s) G i : Nat)), (167, .int .i64 ((digs B32 n).length : Nat)), (168, .int .i64 (i : Nat))]) (fun ⟨i, hi⟩ => [⟨some g3, 136, NV .u32 (row ((digs B32 n).length + 1) (shR (n * 2 ^ s))), (digs B32 n).length + 1, true⟩, ⟨some g2, 136, NV .u32 (row ((digs B32 m).length + 1) (msT (m * 2 ^ s) W (dvD (n * 2 ^ s) W (digs B32 n).length G) j i)), (digs B32 m).length + 1, true⟩, ⟨some g4, 136, NV .u32 (row ((digs B32 m).length + 1 - (digs B32 n).length) (outT (m * 2 ^ s) (n * 2 ^ s) (j + 1))), ((digs B32 m).length + 1 - (digs B32 n).length), true⟩]) (fun ⟨i, hi⟩ => (digs B32 n).length - i) ⟨0, Nat.zero_le _⟩ ⟨rfl, rfl, rfl, rfl, rfl, rfl, rfl, (look_val rfl (by rw [subB_zero]; rfl)), (look_val rfl (by rw [gC_zero]; rfl)), rfl, rfl, trivial⟩ (weak_eq (congrArg (fun c => [⟨some g3, 136, NV .u32 (row ((digs B32 n).length + 1) (shR (n * 2 ^ s))), (digs B32 n).length + 1, true⟩, (⟨some g2, 136, NV .u32 c, (digs B32 m).length + 1, true⟩ : Blk), ⟨some g4, 136, NV .u32 (row ((digs B32 m).length + 1 - (digs B32 n).length) (outT (m * 2 ^ s) (n * 2 ^ s) (j + 1))), ((digs B32 m).length + 1 - (digs B32 n).length), true⟩]) (row_congr fun k _ => xw_ms hW (dvD (n * 2 ^ s) W (digs B32 n).length G) k))) ?_
       rintro ⟨i, hi⟩
       show At _ ⟨304, [(9, slv (some g3) 0 (digs B32 n).length ((digs B32 n).length + 1)), (12, .int .i64 (s : Nat)), (13, slv (some g2) 0 ((digs B32 m).length + 1) ((digs B32 m).length + 1)), (14, .int .i64 ((digs B32 n).length : Nat)), (15, slv (some g4) 0 ((digs B32 m).length + 1 - (digs B32 n).length) ((digs B32 m).length + 1 - (digs B32 n).length)), (16, .int .i64 (j : Nat)), (18, .int .u64 (G : Nat)), (20, .int .i64 (subB (W + B32 ^ ((digs B32 n).length + 1)) (G * (n * 2 ^ s)) (i) : Nat)), (21, .int .u64 (gC (n * 2 ^ s) G i : Nat)), (167, .int .i64 ((digs B32 n).length : Nat)), (168, .int .i64 (i : Nat))], [⟨some g3, 136, NV .u32 (row ((digs B32 n).length + 1) (shR (n * 2 ^ s))), (digs B32 n).length + 1, true⟩, ⟨some g2, 136, NV .u32 (row ((digs B32 m).length + 1) (msT (m * 2 ^ s) W (dvD (n * 2 ^ s) W (digs B32 n).length G) j i)), (digs B32 m).length + 1, true⟩, ⟨some g4, 136, NV .u32 (row ((digs B32 m).length + 1 - (digs B32 n).length) (outT (m * 2 ^ s) (n * 2 ^ s) (j + 1))), ((digs B32 m).length + 1 - (digs B32 n).length), true⟩]⟩ _
       refine at_seq (at_region (r_cmpInt rfl rfl rfl rfl rfl (run_nil (at_tn (at_seq ?_)))))
       refine at_cond rfl (fun hb9 => ?_) (fun hb9 => ?_)
       ·
        have hlt : i < (digs B32 n).length := (by have := of_decide_eq_true hb9; omega)
        have hb1 := subB_le (W + B32 ^ ((digs B32 n).length + 1)) (G * (n * 2 ^ s)) i
        have hw1 := B32_mod (W / B32 ^ i)
        have hp1 := B32_mod (G * (n * 2 ^ s) / B32 ^ i)
        have hy1 := B32_mod ((n * 2 ^ s) / B32 ^ i)
        have hD1 := B32_mod ((dvD (n * 2 ^ s) W (digs B32 n).length G) / B32 ^ i)
        have hgs := gS_lt (n * 2 ^ s) G i hG4
        have hgc := gC_le (n * 2 ^ s) G i hG4
        refine at_skip (at_tn (at_seq (at_block (at_seq (at_region (r_move rfl rfl rfl (r_assign rfl rfl rfl (run_nil (at_tn (at_seq (at_region (r_move rfl rfl rfl (r_move rfl rfl rfl (r_move rfl rfl rfl (r_move rfl rfl rfl ?_)))))))))))))))
        refine r_indexAddr 0 (i) u161 ti136 rfl rfl rfl rfl rfl (by omega) (by omega) (NV_ne (by rw [row_length]; omega)) (by show 0 + Int.toNat _ * 1 = _; omega) ?_
        refine r_load1 0 (i) ti136 rfl rfl rfl rfl (NV_get ((row_get (by omega)).trans (congrArg some (show shR (n * 2 ^ s) i = (n * 2 ^ s) / B32 ^ i % B32 from rfl)))) ?_
        refine r_conv (r := (((n * 2 ^ s) / B32 ^ i % B32 : Nat) : Int)) u136 u116 rfl rfl rfl (c64 _ rfl (by omega)) ?_
        refine r_arith (r := ((G * ((n * 2 ^ s) / B32 ^ i % B32) : Nat) : Int)) rfl rfl rfl rfl (congrArg some (c64 _ (Int.natCast_mul _ _).symm hgs.2)) ?_
        refine r_arith (r := ((gS (n * 2 ^ s) G i : Nat) : Int)) rfl rfl rfl rfl (congrArg some (c64 _ (gS_cast _ _ _) hgs.1)) ?_
        refine r_assign rfl rfl rfl (run_nil (at_tn (at_seq (at_region (r_move rfl rfl rfl (r_move rfl rfl rfl (r_move rfl rfl rfl ?_)))))))
        refine r_arith (r := ((i + j : Nat) : Int)) rfl rfl rfl rfl (congrArg some (wi (by omega) (by omega) (by omega))) ?_
        refine r_indexAddr 1 (i + j) u161 ti136 rfl rfl rfl rfl rfl (by omega) (by omega) (NV_ne (by rw [row_length]; omega)) (by show 0 + Int.toNat _ * 1 = _; omega) ?_
        refine r_load1 1 (i + j) ti136 rfl rfl rfl rfl (NV_get ((row_get (by omega)).trans (congrArg some (msT_at _ _ _ j i)))) ?_
        refine r_conv (r := ((W / B32 ^ i % B32 : Nat) : Int)) u136 u2 rfl rfl rfl (wi (by omega) (by omega) (by omega)) ?_
        refine r_move rfl rfl rfl ?_
        refine r_arith (r := (((W / B32 ^ i % B32 : Nat) : Int) - ((subB (W + B32 ^ ((digs B32 n).length + 1)) (G * (n * 2 ^ s)) (i) : Nat) : Int))) rfl rfl rfl rfl (congrArg some (wi (by omega) (by omega) (by omega))) ?_
        refine r_move rfl rfl rfl ?_
        refine r_conv (r := ((G * (n * 2 ^ s) / B32 ^ i % B32 : Nat) : Int)) u116 u136 rfl rfl rfl ((c32 _ rfl).trans (by rw [gS_low])) ?_
        refine r_conv (r := ((G * (n * 2 ^ s) / B32 ^ i % B32 : Nat) : Int)) u136 u2 rfl rfl rfl (wi (by omega) (by omega) (by omega)) ?_
        refine r_arith (r := (((W / B32 ^ i % B32 : Nat) : Int) - ((subB (W + B32 ^ ((digs B32 n).length + 1)) (G * (n * 2 ^ s)) (i) : Nat) : Int) - ((G * (n * 2 ^ s) / B32 ^ i % B32 : Nat) : Int))) rfl rfl rfl rfl (congrArg some (wi (by omega) (by omega) (by omega))) ?_
        refine r_assign rfl rfl rfl (run_nil (at_tn (at_seq (at_region (r_move rfl rfl rfl ?_)))))
        refine r_shift (r := ((gC (n * 2 ^ s) G (i + 1) : Nat) : Int)) rfl rfl rfl rfl (by omega) (congrArg some ((shr_u _ 32 rfl rfl (by omega)).trans (by rw [gS_carry]))) ?_
        refine r_assign rfl rfl rfl (run_nil (at_tn (at_seq (at_region (r_assign rfl rfl rfl (run_nil (at_tn (at_seq (at_seq (at_region (r_move rfl rfl rfl (r_cmpInt rfl rfl rfl rfl rfl (run_nil (at_tn ?_))))))))))))))
        refine at_cond rfl (fun hb10 => ?_) (fun hb10 => ?_)
        ·
         obtain ⟨hd1, hd2⟩ := ms_neg (i := i) hd hG3 (by omega) (by have := of_decide_eq_true hb10; omega)
         refine at_region (r_move rfl rfl rfl ?_)
         refine r_arith (r := (((dvD (n * 2 ^ s) W (digs B32 n).length G) / B32 ^ i % B32 : Nat) : Int)) rfl rfl rfl rfl (congrArg some (wi (by omega) (by omega) (by omega))) ?_
         refine r_assign rfl rfl rfl (r_assign rfl rfl rfl (run_nil (at_tn (at_region (r_move rfl rfl rfl (r_move rfl rfl rfl (r_move rfl rfl rfl ?_)))))))
         refine r_arith (r := ((i + j : Nat) : Int)) rfl rfl rfl rfl (congrArg some (wi (by omega) (by omega) (by omega))) ?_
         refine r_move rfl rfl rfl ?_
         refine r_conv (r := (((dvD (n * 2 ^ s) W (digs B32 n).length G) / B32 ^ i % B32 : Nat) : Int)) u2 u136 rfl rfl rfl ((c32 _ rfl).trans (by rw [Nat.mod_eq_of_lt (by omega)])) ?_
         refine r_indexAddr 1 (i + j) u161 ti136 rfl rfl rfl rfl rfl (by omega) (by omega) (NV_ne (by rw [row_length]; omega)) (by show 0 + Int.toNat _ * 1 = _; omega) ?_
         refine r_store1 rfl 1 (i + j) [_, ⟨some g2, 136, _, _, true⟩, _] (NV .u32 (row ((digs B32 m).length + 1) (msT (m * 2 ^ s) W (dvD (n * 2 ^ s) W (digs B32 n).length G) j (i + 1)))) ti136 rfl rfl rfl rfl rfl rfl rfl rfl (by rw [NV_length, row_length]; omega) (by rw [NV_set, row_set (fun k _ => msT_step _ _ _ j i k)]) rfl ?_
         refine run_nil (at_bn (at_tn (at_region ?_)))
         refine r_arith (r := ((i + 1 : Nat) : Int)) rfl rfl rfl rfl (congrArg some (wi (by omega) (by omega) (by omega))) ?_
         refine r_move rfl rfl rfl (run_nil (at_tn ?_))
         exact nextL ⟨i + 1, hlt⟩ (by simp only []; omega) ⟨rfl, rfl, rfl, rfl, rfl, rfl, rfl, (look_val rfl (by rw [hd2]; rfl)), rfl, rfl, rfl, trivial⟩ (Weak.refl _)
        ·
         obtain ⟨hd1, hd2⟩ := ms_pos (i := i) hd hG3 (by omega) (by have := of_decide_eq_false hb10; omega)
         refine at_know 23 (.int .i64 ((dvD (n * 2 ^ s) W (digs B32 n).length G) / B32 ^ i % B32 : Nat)) rfl (congrArg (Value.int .i64) (by omega)) ?_
         refine at_skip (at_tn (at_region (r_move rfl rfl rfl (r_move rfl rfl rfl (r_move rfl rfl rfl ?_)))))
         refine r_arith (r := ((i + j : Nat) : Int)) rfl rfl rfl rfl (congrArg some (wi (by omega) (by omega) (by omega))) ?_
         refine r_move rfl rfl rfl ?_
         refine r_conv (r := (((dvD (n * 2 ^ s) W (digs B32 n).length G) / B32 ^ i % B32 : Nat) : Int)) u2 u136 rfl rfl rfl ((c32 _ rfl).trans (by rw [Nat.mod_eq_of_lt (by omega)])) ?_
         refine r_indexAddr 1 (i + j) u161 ti136 rfl rfl rfl rfl rfl (by omega) (by omega) (NV_ne (by rw [row_length]; omega)) (by show 0 + Int.toNat _ * 1 = _; omega) ?_
         refine r_store1 rfl 1 (i + j) [_, ⟨some g2, 136, _, _, true⟩, _] (NV .u32 (row ((digs B32 m).length + 1) (msT (m * 2 ^ s) W (dvD (n * 2 ^ s) W (digs B32 n).length G) j (i + 1)))) ti136 rfl rfl rfl rfl rfl rfl rfl rfl (by rw [NV_length, row_length]; omega) (by rw [NV_set, row_set (fun k _ => msT_step _ _ _ j i k)]) rfl ?_
         refine run_nil (at_bn (at_tn (at_region ?_)))
         refine r_arith (r := ((i + 1 : Nat) : Int)) rfl rfl rfl rfl (congrArg some (wi (by omega) (by omega) (by omega))) ?_
         refine r_move rfl rfl rfl (run_nil (at_tn ?_))
         exact nextL ⟨i + 1, hlt⟩ (by simp only []; omega) ⟨rfl, rfl, rfl, rfl, rfl, rfl, rfl, (look_val rfl (by rw [hd2]; rfl)), rfl, rfl, rfl, trivial⟩ (Weak.refl _)
       ·
        have hge : i = (digs B32 n).length := (by have := of_decide_eq_false hb9; omega)
        have hb1 := subB_le (W + B32 ^ ((digs B32 n).length + 1)) (G * (n * 2 ^ s)) i
        have hw1 := B32_mod (W / B32 ^ i)
        have hp1 := B32_mod (G * (n * 2 ^ s) / B32 ^ i)
        have hy1 := B32_mod ((n * 2 ^ s) / B32 ^ i)
        have hD1 := B32_mod ((dvD (n * 2 ^ s) W (digs B32 n).length G) / B32 ^ i)
        have hgs := gS_lt (n * 2 ^ s) G i hG4
        have hgc := gC_le (n * 2 ^ s) G i hG4
        refine at_exit (at_te (at_te (at_be (at_tn (at_seq (at_region (r_move rfl rfl rfl (r_move rfl rfl rfl (r_move rfl rfl rfl ?_)))))))))
        refine r_arith (r := ((i + j : Nat) : Int)) rfl rfl rfl rfl (congrArg some (wi (by omega) (by omega) (by omega))) ?_
        refine r_indexAddr 1 (i + j) u161 ti136 rfl rfl rfl rfl rfl (by omega) (by omega) (NV_ne (by rw [row_length]; omega)) (by show 0 + Int.toNat _ * 1 = _; omega) ?_
        refine r_load1 1 (i + j) ti136 rfl rfl rfl rfl (NV_get ((row_get (by omega)).trans (congrArg some (msT_at _ _ _ j i)))) ?_
        refine r_conv (r := ((W / B32 ^ i % B32 : Nat) : Int)) u136 u2 rfl rfl rfl (wi (by omega) (by omega) (by omega)) ?_
        refine r_move rfl rfl rfl ?_
        refine r_arith (r := (((W / B32 ^ i % B32 : Nat) : Int) - ((subB (W + B32 ^ ((digs B32 n).length + 1)) (G * (n * 2 ^ s)) (i) : Nat) : Int))) rfl rfl rfl rfl (congrArg some (wi (by omega) (by omega) (by omega))) ?_
        refine r_move rfl rfl rfl ?_
        refine r_conv (r := ((G * (n * 2 ^ s) / B32 ^ i % B32 : Nat) : Int)) u116 u2 rfl rfl rfl (by rw [hge, gC_last hd.hi hG4]; rw [hge] at hp1; exact wi (by omega) (by omega) rfl) ?_
        refine r_arith (r := (((W / B32 ^ i % B32 : Nat) : Int) - ((subB (W + B32 ^ ((digs B32 n).length + 1)) (G * (n * 2 ^ s)) (i) : Nat) : Int) - ((G * (n * 2 ^ s) / B32 ^ i % B32 : Nat) : Int))) rfl rfl rfl rfl (congrArg some (wi (by omega) (by omega) (by omega))) ?_
        refine r_assign rfl rfl rfl (run_nil (at_tn (at_seq (at_region (r_move rfl rfl rfl (r_move rfl rfl rfl (r_move rfl rfl rfl ?_)))))))
        refine r_arith (r := ((i + j : Nat) : Int)) rfl rfl rfl rfl (congrArg some (wi (by omega) (by omega) (by omega))) ?_
        refine r_move rfl rfl rfl ?_
        refine r_conv (r := (((dvD (n * 2 ^ s) W (digs B32 n).length G) / B32 ^ i % B32 : Nat) : Int)) u2 u136 rfl rfl rfl (ms_u32 hd hG3 (by omega)) ?_
        refine r_indexAddr 1 (i + j) u161 ti136 rfl rfl rfl rfl rfl (by omega) (by omega) (NV_ne (by rw [row_length]; omega)) (by show 0 + Int.toNat _ * 1 = _; omega) ?_
        refine r_store1 rfl 1 (i + j) [_, ⟨some g2, 136, _, _, true⟩, _] (NV .u32 (row ((digs B32 m).length + 1) (msT (m * 2 ^ s) W (dvD (n * 2 ^ s) W (digs B32 n).length G) j ((digs B32 n).length + 1)))) ti136 rfl rfl rfl rfl rfl rfl rfl rfl (by rw [NV_length, row_length]; omega) (by rw [hge, NV_set, row_set (fun k _ => msT_step _ _ _ j _ k)]) rfl ?_
        refine run_nil (at_tn (at_seq (at_seq (at_region (r_move rfl rfl rfl (r_cmpInt rfl rfl rfl rfl rfl (run_nil (at_tn ?_))))))))
        refine at_cond rfl (fun hb10 => ?_) (fun hb10 => ?_)
        ·
         obtain ⟨hd1, hd2⟩ := ms_neg (i := i) hd hG3 (by omega) (by have := of_decide_eq_true hb10; omega)
         rw [hge] at hd2
         have hG5 := dv_neg hd hG3 hG2 hd2
         have hG6 : G - 1 = (m * 2 ^ s) / (n * 2 ^ s) / B32 ^ j % B32 := by omega
         have hG0 : 0 < G := by omega
         subst hge
         refine at_seq (at_region (r_move rfl rfl rfl ?_))
         refine r_arith (r := ((G - 1 : Nat) : Int)) rfl rfl rfl rfl (congrArg some (c64 _ (by omega) (by omega))) ?_
         refine r_assign rfl rfl rfl (run_nil (at_tn (at_seq (at_region (r_assign rfl rfl rfl (run_nil (at_tn (at_seq (at_seq (at_region (r_move rfl rfl rfl (r_move rfl rfl rfl (run_nil (at_tn (at_block ?_)))))))))))))))
         refine enterL (nt := 304) (ι := {i : Nat // i ≤ (digs B32 n).length}) (fun ⟨i, hi⟩ => [(9, slv (some g3) 0 (digs B32 n).length ((digs B32 n).length + 1)), (12, .int .i64 (s : Nat)), (13, slv (some g2) 0 ((digs B32 m).length + 1) ((digs B32 m).length + 1)), (14, .int .i64 ((digs B32 n).length : Nat)), (15, slv (some g4) 0 ((digs B32 m).length + 1 - (digs B32 n).length) ((digs B32 m).length + 1 - (digs B32 n).length)), (16, .int .i64 (j : Nat)), (18, .int .u64 (G - 1 : Nat)), (25, .int .u64 (addC (dvD (n * 2 ^ s) W (digs B32 n).length G) (n * 2 ^ s) i : Nat)), (230, .int .i64 ((digs B32 n).length : Nat)), (231, .int .i64 (i : Nat))]) (fun ⟨i, hi⟩ => [⟨some g3, 136, NV .u32 (row ((digs B32 n).length + 1) (shR (n * 2 ^ s))), (digs B32 n).length + 1, true⟩, ⟨some g2, 136, NV .u32 (row ((digs B32 m).length + 1) (abT (m * 2 ^ s) (n * 2 ^ s) W (dvD (n * 2 ^ s) W (digs B32 n).length G) (digs B32 n).length j i)), (digs B32 m).length + 1, true⟩, ⟨some g4, 136, NV .u32 (row ((digs B32 m).length + 1 - (digs B32 n).length) (outT (m * 2 ^ s) (n * 2 ^ s) (j + 1))), ((digs B32 m).length + 1 - (digs B32 n).length), true⟩]) (fun ⟨i, hi⟩ => (digs B32 n).length - i) ⟨0, Nat.zero_le _⟩ ⟨rfl, rfl, rfl, rfl, rfl, rfl, rfl, (look_val rfl (by rw [addC_zero]; rfl)), rfl, rfl, trivial⟩ (weak_eq (congrArg (fun c => [⟨some g3, 136, NV .u32 (row ((digs B32 n).length + 1) (shR (n * 2 ^ s))), (digs B32 n).length + 1, true⟩, (⟨some g2, 136, NV .u32 c, (digs B32 m).length + 1, true⟩ : Blk), ⟨some g4, 136, NV .u32 (row ((digs B32 m).length + 1 - (digs B32 n).length) (outT (m * 2 ^ s) (n * 2 ^ s) (j + 1))), ((digs B32 m).length + 1 - (digs B32 n).length), true⟩]) (row_congr fun k _ => abT_zero (m * 2 ^ s) (n * 2 ^ s) W (dvD (n * 2 ^ s) W (digs B32 n).length G) (digs B32 n).length j k))) ?_
         rintro ⟨i, hi⟩
         show At _ ⟨304, [(9, slv (some g3) 0 (digs B32 n).length ((digs B32 n).length + 1)), (12, .int .i64 (s : Nat)), (13, slv (some g2) 0 ((digs B32 m).length + 1) ((digs B32 m).length + 1)), (14, .int .i64 ((digs B32 n).length : Nat)), (15, slv (some g4) 0 ((digs B32 m).length + 1 - (digs B32 n).length) ((digs B32 m).length + 1 - (digs B32 n).length)), (16, .int .i64 (j : Nat)), (18, .int .u64 (G - 1 : Nat)), (25, .int .u64 (addC (dvD (n * 2 ^ s) W (digs B32 n).length G) (n * 2 ^ s) i : Nat)), (230, .int .i64 ((digs B32 n).length : Nat)), (231, .int .i64 (i : Nat))], [⟨some g3, 136, NV .u32 (row ((digs B32 n).length + 1) (shR (n * 2 ^ s))), (digs B32 n).length + 1, true⟩, ⟨some g2, 136, NV .u32 (row ((digs B32 m).length + 1) (abT (m * 2 ^ s) (n * 2 ^ s) W (dvD (n * 2 ^ s) W (digs B32 n).length G) (digs B32 n).length j i)), (digs B32 m).length + 1, true⟩, ⟨some g4, 136, NV .u32 (row ((digs B32 m).length + 1 - (digs B32 n).length) (outT (m * 2 ^ s) (n * 2 ^ s) (j + 1))), ((digs B32 m).length + 1 - (digs B32 n).length), true⟩]⟩ _
         refine at_seq (at_region (r_cmpInt rfl rfl rfl rfl rfl (run_nil (at_tn (at_seq ?_)))))
         refine at_cond rfl (fun hb12 => ?_) (fun hb12 => ?_)
         ·
          have hlt : i < (digs B32 n).length := (by have := of_decide_eq_true hb12; omega)
          have hD1 := B32_mod ((dvD (n * 2 ^ s) W (digs B32 n).length G) / B32 ^ i)
          have hy1 := B32_mod ((n * 2 ^ s) / B32 ^ i)
          have hac := addC_le (dvD (n * 2 ^ s) W (digs B32 n).length G) (n * 2 ^ s) i
          have has := addS_lt (dvD (n * 2 ^ s) W (digs B32 n).length G) (n * 2 ^ s) i
          refine at_skip (at_tn (at_seq (at_block (at_seq (at_region (r_move rfl rfl rfl (r_assign rfl rfl rfl (run_nil (at_tn (at_seq ?_))))))))))
          refine at_drawn (l' := [⟨_,_,_,_,_,_⟩, ⟨_,_,_,_,_,_⟩, ⟨_,_,_,_,_,_⟩, ⟨_,_,_,_,_,_⟩, ⟨_,_,_,_,_,_⟩, ⟨_,_,_,_,_,_⟩, ⟨_,_,_,_,_,_⟩, ⟨_,_,_,_,_,_⟩, ⟨_,_,_,_,_,_⟩, ⟨_,_,_,_,_,_⟩, ⟨_,_,_,_,_,_⟩, ⟨_,_,_,_,_,_⟩, ⟨_,_,_,_,_,_⟩, ⟨_,_,_,_,_,_⟩, ⟨_,_,_,_,_,_⟩, ⟨_,_,_,_,_,_⟩]) [] [0, 1, 2, 3, 4, 5, 6, 7, 8, 9, 10, 11, 12, 13, 14, 15] mixed (by kernel_rfl) rfl (by kernel_rfl) ?_
          refine r_move rfl rfl rfl (r_move rfl rfl rfl (r_move rfl rfl rfl (r_move rfl rfl rfl ?_)))
          refine r_arith (r := ((i + j : Nat) : Int)) rfl rfl rfl rfl (congrArg some (wi (by omega) (by omega) (by omega))) ?_
          refine r_indexAddr 1 (i + j) u161 ti136 rfl rfl rfl rfl rfl (by omega) (by omega) (NV_ne (by rw [row_length]; omega)) (by show 0 + Int.toNat _ * 1 = _; omega) ?_
          refine r_load1 1 (i + j) ti136 rfl rfl rfl rfl (NV_get ((row_get (by omega)).trans (congrArg some (abT_at _ _ _ _ _ j i (by omega))))) ?_
          refine r_conv (r := (((dvD (n * 2 ^ s) W (digs B32 n).length G) / B32 ^ i % B32 : Nat) : Int)) u136 u116 rfl rfl rfl (c64 _ rfl (by omega)) ?_
          refine r_move rfl rfl rfl (r_move rfl rfl rfl ?_)
          refine r_indexAddr 0 (i) u161 ti136 rfl rfl rfl rfl rfl (by omega) (by omega) (NV_ne (by rw [row_length]; omega)) (by show 0 + Int.toNat _ * 1 = _; omega) ?_
          refine r_load1 0 (i) ti136 rfl rfl rfl rfl (NV_get ((row_get (by omega)).trans (congrArg some (show shR (n * 2 ^ s) i = (n * 2 ^ s) / B32 ^ i % B32 from rfl)))) ?_
          refine r_conv (r := (((n * 2 ^ s) / B32 ^ i % B32 : Nat) : Int)) u136 u116 rfl rfl rfl (c64 _ rfl (by omega)) ?_
          refine r_arith (r := (((dvD (n * 2 ^ s) W (digs B32 n).length G) / B32 ^ i % B32 + (n * 2 ^ s) / B32 ^ i % B32 : Nat) : Int)) rfl rfl rfl rfl (congrArg some (c64 _ rfl (by omega))) ?_
          refine r_arith (r := ((addS (dvD (n * 2 ^ s) W (digs B32 n).length G) (n * 2 ^ s) i : Nat) : Int)) rfl rfl rfl rfl (congrArg some (c64 _ (addS_cast _ _ _) (by omega))) ?_
          refine r_assign rfl rfl rfl (run_nil (at_tn (at_region (r_move rfl rfl rfl (r_move rfl rfl rfl (r_move rfl rfl rfl ?_))))))
          refine r_arith (r := ((i + j : Nat) : Int)) rfl rfl rfl rfl (congrArg some (wi (by omega) (by omega) (by omega))) ?_
          refine r_move rfl rfl rfl ?_
          refine r_conv (r := ((addS (dvD (n * 2 ^ s) W (digs B32 n).length G) (n * 2 ^ s) i % 4294967296 : Nat) : Int)) u116 u136 rfl rfl rfl (c32 _ rfl) ?_
          refine r_move rfl rfl rfl ?_
          refine r_shift (r := ((addC (dvD (n * 2 ^ s) W (digs B32 n).length G) (n * 2 ^ s) (i + 1) : Nat) : Int)) rfl rfl rfl rfl (by omega) (congrArg some ((shr_u _ 32 rfl rfl (by omega)).trans (by rw [addS_carry]))) ?_
          refine r_indexAddr 1 (i + j) u161 ti136 rfl rfl rfl rfl rfl (by omega) (by omega) (NV_ne (by rw [row_length]; omega)) (by show 0 + Int.toNat _ * 1 = _; omega) ?_
          refine r_store1 rfl 1 (i + j) [_, ⟨some g2, 136, _, _, true⟩, _] (NV .u32 (row ((digs B32 m).length + 1) (abT (m * 2 ^ s) (n * 2 ^ s) W (dvD (n * 2 ^ s) W (digs B32 n).length G) (digs B32 n).length j (i + 1)))) ti136 rfl rfl rfl rfl rfl rfl rfl rfl (by rw [NV_length, row_length]; omega) (by rw [NV_set, row_set (fun k _ => abT_step _ _ _ _ _ j i k)]) rfl ?_
          refine r_assign rfl rfl rfl (run_nil (at_bn (at_tn (at_region ?_))))
          refine r_arith (r := ((i + 1 : Nat) : Int)) rfl rfl rfl rfl (congrArg some (wi (by omega) (by omega) (by omega))) ?_
          refine r_move rfl rfl rfl (run_nil (at_tn ?_))
          exact nextL ⟨i + 1, hlt⟩ (by simp only []; omega) ⟨rfl, rfl, rfl, rfl, rfl, rfl, rfl, rfl, rfl, rfl, trivial⟩ (Weak.refl _)
         ·
          have hge2 : i = (digs B32 n).length := (by have := of_decide_eq_false hb12; omega)
          subst hge2
          have hD1 := B32_mod ((dvD (n * 2 ^ s) W (digs B32 n).length G) / B32 ^ (digs B32 n).length)
          have hac := addC_le (dvD (n * 2 ^ s) W (digs B32 n).length G) (n * 2 ^ s) (digs B32 n).length
          refine at_exit (at_te (at_te (at_be (at_tn (at_region (r_move rfl rfl rfl (r_move rfl rfl rfl (r_move rfl rfl rfl ?_))))))))
          refine r_arith (r := (((digs B32 n).length + j : Nat) : Int)) rfl rfl rfl rfl (congrArg some (wi (by omega) (by omega) (by omega))) ?_
          refine r_indexAddr 1 ((digs B32 n).length + j) u161 ti136 rfl rfl rfl rfl rfl (by omega) (by omega) (NV_ne (by rw [row_length]; omega)) (by show 0 + Int.toNat _ * 1 = _; omega) ?_
          refine r_load1 1 ((digs B32 n).length + j) ti136 rfl rfl rfl rfl (NV_get ((row_get (by omega)).trans (congrArg some (abT_at _ _ _ _ _ j (digs B32 n).length (by omega))))) ?_
          refine r_move rfl rfl rfl ?_
          refine r_conv (r := ((addC (dvD (n * 2 ^ s) W (digs B32 n).length G) (n * 2 ^ s) (digs B32 n).length % 4294967296 : Nat) : Int)) u116 u136 rfl rfl rfl (c32 _ rfl) ?_
          refine r_arith (r := ((addS (dvD (n * 2 ^ s) W (digs B32 n).length G) (n * 2 ^ s) (digs B32 n).length % 4294967296 : Nat) : Int)) rfl rfl rfl rfl (congrArg some ((c32 _ rfl).trans (by rw [ab_low _ _ _ hd.hi]))) ?_
          refine r_indexAddr 1 ((digs B32 n).length + j) u161 ti136 rfl rfl rfl rfl rfl (by omega) (by omega) (NV_ne (by rw [row_length]; omega)) (by show 0 + Int.toNat _ * 1 = _; omega) ?_
          refine r_store1 rfl 1 ((digs B32 n).length + j) [_, ⟨some g2, 136, _, _, true⟩, _] (NV .u32 (row ((digs B32 m).length + 1) (abT (m * 2 ^ s) (n * 2 ^ s) W (dvD (n * 2 ^ s) W (digs B32 n).length G) (digs B32 n).length j ((digs B32 n).length + 1)))) ti136 rfl rfl rfl rfl rfl rfl rfl rfl (by rw [NV_length, row_length]; omega) (by rw [NV_set, row_set (fun k _ => abT_step _ _ _ _ _ j _ k)]) rfl ?_
          refine run_nil (at_tn (at_region (r_move rfl rfl rfl (r_move rfl rfl rfl (r_move rfl rfl rfl ?_)))))
          refine r_conv (r := (((m * 2 ^ s) / (n * 2 ^ s) / B32 ^ j % B32 : Nat) : Int)) u116 u136 rfl rfl rfl ((c32 _ rfl).trans (by rw [hG6]; show ((_ % B32 % B32 : Nat) : Int) = _; rw [Nat.mod_mod])) ?_
          refine r_indexAddr 2 (j) u161 ti136 rfl rfl rfl rfl rfl (by omega) (by omega) (NV_ne (by rw [row_length]; omega)) (by show 0 + Int.toNat _ * 1 = _; omega) ?_
          refine r_store1 rfl 2 (j) [_, _, ⟨some g4, 136, _, _, true⟩] (NV .u32 (row ((digs B32 m).length + 1 - (digs B32 n).length) (outT (m * 2 ^ s) (n * 2 ^ s) j))) ti136 rfl rfl rfl rfl rfl rfl rfl rfl (by rw [NV_length, row_length]; omega) (by rw [NV_set, row_set (fun k _ => outT_step _ _ j k)]) rfl ?_
          refine run_nil (at_bn (at_tn (at_region (r_move rfl rfl rfl ?_))))
          refine r_arith (r := ((j : Nat) : Int) - 1) rfl rfl rfl rfl (congrArg some (wi (by omega) (by omega) (by omega))) ?_
          refine r_assign rfl rfl rfl (run_nil (at_tn ?_))
          exact nextL ⟨j, by omega⟩ (by simp only []; omega) ⟨rfl, rfl, rfl, rfl, rfl, rfl, trivial⟩ (weak_eq (congrArg (fun c => [⟨some g3, 136, NV .u32 (row ((digs B32 n).length + 1) (shR (n * 2 ^ s))), (digs B32 n).length + 1, true⟩, (⟨some g2, 136, NV .u32 c, (digs B32 m).length + 1, true⟩ : Blk), ⟨some g4, 136, NV .u32 (row ((digs B32 m).length + 1 - (digs B32 n).length) (outT (m * 2 ^ s) (n * 2 ^ s) (j))), ((digs B32 m).length + 1 - (digs B32 n).length), true⟩]) (row_congr fun k _ => (ab_end hd hG5).trans (by rw [hr]))))
        ·
         obtain ⟨hd1, hd2⟩ := ms_pos (i := i) hd hG3 (by omega) (by have := of_decide_eq_false hb10; omega)
         rw [hge] at hd2
         have hG5 := dv_pos hd hG3 hG2 hG4 hd2
         have hG6 : G = (m * 2 ^ s) / (n * 2 ^ s) / B32 ^ j % B32 := by omega
         subst hge
         refine at_skip (at_tn (at_region (r_move rfl rfl rfl (r_move rfl rfl rfl (r_move rfl rfl rfl ?_)))))
         refine r_conv (r := (((m * 2 ^ s) / (n * 2 ^ s) / B32 ^ j % B32 : Nat) : Int)) u116 u136 rfl rfl rfl ((c32 _ rfl).trans (by rw [hG6]; show ((_ % B32 % B32 : Nat) : Int) = _; rw [Nat.mod_mod])) ?_
         refine r_indexAddr 2 (j) u161 ti136 rfl rfl rfl rfl rfl (by omega) (by omega) (NV_ne (by rw [row_length]; omega)) (by show 0 + Int.toNat _ * 1 = _; omega) ?_
         refine r_store1 rfl 2 (j) [_, _, ⟨some g4, 136, _, _, true⟩] (NV .u32 (row ((digs B32 m).length + 1 - (digs B32 n).length) (outT (m * 2 ^ s) (n * 2 ^ s) j))) ti136 rfl rfl rfl rfl rfl rfl rfl rfl (by rw [NV_length, row_length]; omega) (by rw [NV_set, row_set (fun k _ => outT_step _ _ j k)]) rfl ?_
         refine run_nil (at_bn (at_tn (at_region (r_move rfl rfl rfl ?_))))
         refine r_arith (r := ((j : Nat) : Int) - 1) rfl rfl rfl rfl (congrArg some (wi (by omega) (by omega) (by omega))) ?_
         refine r_assign rfl rfl rfl (run_nil (at_tn ?_))
         exact nextL ⟨j, by omega⟩ (by simp only []; omega) ⟨rfl, rfl, rfl, rfl, rfl, rfl, trivial⟩ (weak_eq (congrArg (fun c => [⟨some g3, 136, NV .u32 (row ((digs B32 n).length + 1) (shR (n * 2 ^ s))), (digs B32 n).length + 1, true⟩, (⟨some g2, 136, NV .u32 c, (digs B32 m).length + 1, true⟩ : Blk), ⟨some g4, 136, NV .u32 (row ((digs B32 m).length + 1 - (digs B32 n).length) (outT (m * 2 ^ s) (n * 2 ^ s) (j))), ((digs B32 m).length + 1 - (digs B32 n).length), true⟩]) (row_congr fun k _ => (ms_end hd hG5).trans (by rw [hr]))))
      ·
       have hr32 : r + (n * 2 ^ s) / B32 ^ ((digs B32 n).length - 1) < 4294967296 := by have := of_decide_eq_false hb7; omega
       refine at_skip (at_bn (at_tn ?_))
       exact nextL ⟨(g - 1, r + (n * 2 ^ s) / B32 ^ ((digs B32 n).length - 1)), g_next hd hg hq (by omega)⟩ (by simp only []; omega) ⟨rfl, rfl, rfl, rfl, rfl, rfl, rfl, rfl, trivial⟩ (Weak.refl _)
     ·
      have hg32 : g < 4294967296 := by have := of_decide_eq_false hb6; omega
      have hgb := hg.2.1
      have hgc := hg.2.2.2
      refine r_move rfl rfl rfl (r_move rfl rfl rfl (r_move rfl rfl rfl ?_))
      refine r_arith (r := (((digs B32 n).length - 2 : Nat) : Int)) rfl rfl rfl rfl (congrArg some (wi (by omega) (by omega) (by omega))) ?_
      refine r_indexAddr 0 ((digs B32 n).length - 2) u161 ti136 rfl rfl rfl rfl rfl (by omega) (by omega) (NV_ne (by rw [row_length]; omega)) (by show 0 + Int.toNat _ * 1 = _; omega) ?_
      refine r_load1 0 ((digs B32 n).length - 2) ti136 rfl rfl rfl rfl (NV_get ((row_get (by omega)).trans (congrArg some (show shR (n * 2 ^ s) ((digs B32 n).length - 2) = (n * 2 ^ s) / B32 ^ ((digs B32 n).length - 2) % B32 from rfl)))) ?_
      refine r_conv (r := (((n * 2 ^ s) / B32 ^ ((digs B32 n).length - 2) % B32 : Nat) : Int)) u136 u116 rfl rfl rfl (c64 _ rfl (by omega)) ?_
      refine r_arith (r := ((g * ((n * 2 ^ s) / B32 ^ ((digs B32 n).length - 2) % B32) : Nat) : Int)) rfl rfl rfl rfl (congrArg some (c64 _ (Int.natCast_mul _ _).symm (mul64 hg32 hyL2))) ?_
      refine r_move rfl rfl rfl ?_
      refine r_shift (r := ((r * 2 ^ 32 : Nat) : Int)) rfl rfl rfl rfl (by omega) (congrArg some (shl_u _ 32 rfl rfl (by omega) (by omega))) ?_
      refine r_move rfl rfl rfl (r_move rfl rfl rfl (r_move rfl rfl rfl ?_))
      refine r_arith (r := (((digs B32 n).length + j : Nat) : Int)) rfl rfl rfl rfl (congrArg some (wi (by omega) (by omega) (by omega))) ?_
      refine r_arith (r := (((digs B32 n).length - 2 + j : Nat) : Int)) rfl rfl rfl rfl (congrArg some (wi (by omega) (by omega) (by omega))) ?_
      refine r_indexAddr 1 ((digs B32 n).length - 2 + j) u161 ti136 rfl rfl rfl rfl rfl (by omega) (by omega) (NV_ne (by rw [row_length]; omega)) (by show 0 + Int.toNat _ * 1 = _; omega) ?_
      refine r_load1 1 ((digs B32 n).length - 2 + j) ti136 rfl rfl rfl rfl (NV_get ((row_get (by omega)).trans (congrArg some (xw_load hW ((digs B32 n).length - 2))))) ?_
      refine r_conv (r := ((W / B32 ^ ((digs B32 n).length - 2) % B32 : Nat) : Int)) u136 u116 rfl rfl rfl (c64 _ rfl (by omega)) ?_
      refine r_or (r := ((r * 2 ^ 32 + W / B32 ^ ((digs B32 n).length - 2) % B32 : Nat) : Int)) rfl rfl rfl rfl (or_u64 32 (B32_mod _) (by rw [Nat.mul_comm]) (by omega) (by rw [Nat.mul_comm]) rfl) ?_
      refine r_cmpInt rfl rfl rfl rfl rfl (r_pickF rfl rfl rfl rfl (run_nil (at_tn ?_)))
      refine at_cond rfl (fun hb7 => ?_) (fun hb7 => ?_)
      ·
       have hq := g_test hd hg (.inr (Int.ofNat_lt.1 (of_decide_eq_true hb7)))
       have hg0 : 0 < g := Nat.lt_of_le_of_lt (Nat.zero_le _) hq
       refine at_skip (at_tn (at_block (at_seq (at_region (r_move rfl rfl rfl ?_)))))
       refine r_arith (r := ((g - 1 : Nat) : Int)) rfl rfl rfl rfl (congrArg some (c64 _ (by omega) (by omega))) ?_
       refine r_assign rfl rfl rfl (run_nil (at_tn (at_seq (at_region (r_move rfl rfl rfl (r_move rfl rfl rfl (r_move rfl rfl rfl ?_)))))))
       refine r_arith (r := (((digs B32 n).length - 1 : Nat) : Int)) rfl rfl rfl rfl (congrArg some (wi (by omega) (by omega) (by omega))) ?_
       refine r_indexAddr 0 ((digs B32 n).length - 1) u161 ti136 rfl rfl rfl rfl rfl (by omega) (by omega) (NV_ne (by rw [row_length]; omega)) (by show 0 + Int.toNat _ * 1 = _; omega) ?_
       refine r_load1 0 ((digs B32 n).length - 1) ti136 rfl rfl rfl rfl (NV_get ((row_get (by omega)).trans (congrArg some (hd.ytop)))) ?_
       refine r_conv (r := (((n * 2 ^ s) / B32 ^ ((digs B32 n).length - 1) : Nat) : Int)) u136 u116 rfl rfl rfl (c64 _ rfl (by omega)) ?_
       refine r_arith (r := ((r + (n * 2 ^ s) / B32 ^ ((digs B32 n).length - 1) : Nat) : Int)) rfl rfl rfl rfl (congrArg some (c64 _ rfl (by omega))) ?_
       refine r_assign rfl rfl rfl (run_nil (at_tn (at_seq (at_region (r_move rfl rfl rfl (r_cmpInt rfl rfl rfl rfl rfl (run_nil (at_tn ?_))))))))
       refine at_cond rfl (fun hb8 => ?_) (fun hb8 => ?_)
       ·
        obtain ⟨G, hG1, hG2, hG3, hG4⟩ : ∃ G, G = g - 1 ∧ W / (n * 2 ^ s) ≤ G ∧ G ≤ W / (n * 2 ^ s) + 1 ∧ G ≤ 4294967296 := ⟨g - 1, rfl, by omega, g_end2 hd hg hq (by have := of_decide_eq_true hb8; omega), by omega⟩
        refine at_know 18 (.int .u64 (G : Nat)) rfl (by rw [hG1]) ?_
        refine at_exit (at_bne rfl (at_te (at_be (at_tn (at_seq (at_region (r_assign rfl rfl rfl (r_assign rfl rfl rfl (run_nil (at_tn (at_seq (at_seq (at_region (r_move rfl rfl rfl (r_move rfl rfl rfl (run_nil (at_tn (at_block ?_))))))))))))))))))
        refine enterL (nt := 304) (ι := {i : Nat // i ≤ (digs B32 n).length}) (fun ⟨i, hi⟩ => [(9, slv (some g3) 0 (digs B32 n).length ((digs B32 n).length + 1)), (12, .int .i64 (s : Nat)), (13, slv (some g2) 0 ((digs B32 m).length + 1) ((digs B32 m).length + 1)), (14, .int .i64 ((digs B32 n).length : Nat)), (15, slv (some g4) 0 ((digs B32 m).length + 1 - (digs B32 n).length) ((digs B32 m).length + 1 - (digs B32 n).length)), (16, .int .i64 (j : Nat)), (18, .int .u64 (G : Nat)), (20, .int .i64 (subB (W + B32 ^ ((digs B32 n).length + 1)) (G * (n * 2 ^ s)) (i) : Nat)), (21, .int .u64 (gC (n * 2 ^ s) G i : Nat)), (167, .int .i64 ((digs B32 n).length : Nat)), (168, .int .i64 (i : Nat))]) (fun ⟨i, hi⟩ => [⟨some g3, 136, NV .u32 (row ((digs B32 n).length + 1) (shR (n * 2 ^ s))), (digs B32 n).length + 1, true⟩, ⟨some g2, 136, NV .u32 (row ((digs B32 m).length + 1) (msT (m * 2 ^ s) W (dvD (n * 2 ^ s) W (digs B32 n).length G) j i)), (digs B32 m).length + 1, true⟩, ⟨some g4, 136, NV .u32 (row ((digs B32 m).length + 1 - (digs B32 n).length) (outT (m * 2 ^ s) (n * 2 ^ s) (j + 1))), ((digs B32 m).length + 1 - (digs B32 n).length), true⟩]) (fun ⟨i, hi⟩ => (digs B32 n).length - i) ⟨0, Nat.zero_le _⟩ ⟨rfl, rfl, rfl, rfl, rfl, rfl, rfl, (look_val rfl (by rw [subB_zero]; rfl)), (look_val rfl (by rw [gC_zero]; rfl)), rfl, rfl, trivial⟩ (weak_eq (congrArg (fun c => [⟨some g3, 136, NV .u32 (row ((digs B32 n).length + 1) (shR (n * 2 ^ s))), (digs B32 n).length + 1, true⟩, (⟨some g2, 136, NV .u32 c, (digs B32 m).length + 1, true⟩ : Blk), ⟨some g4, 136, NV .u32 (row ((digs B32 m).length + 1 - (digs B32 n).length) (outT (m * 2 ^ s) (n * 2 ^ s) (j + 1))), ((digs B32 m).length + 1 - (digs B32 n).length), true⟩]) (row_congr fun k _ => xw_ms hW (dvD (n * 2 ^ s) W (digs B32 n).length G) k))) ?_
        rintro ⟨i, hi⟩
        show At _ ⟨304, [(9, slv (some g3) 0 (digs B32 n).length ((digs B32 n).length + 1)), (12, .int .i64 (s : Nat)), (13, slv (some g2) 0 ((digs B32 m).length + 1) ((digs B32 m).length + 1)), (14, .int .i64 ((digs B32 n).length : Nat)), (15, slv (some g4) 0 ((digs B32 m).length + 1 - (digs B32 n).length) ((digs B32 m).length + 1 - (digs B32 n).length)), (16, .int .i64 (j : Nat)), (18, .int .u64 (G : Nat)), (20, .int .i64 (subB (W + B32 ^ ((digs B32 n).length + 1)) (G * (n * 2 ^ s)) (i) : Nat)), (21, .int .u64 (gC (n * 2 ^ s) G i : Nat)), (167, .int .i64 ((digs B32 n).length : Nat)), (168, .int .i64 (i : Nat))], [⟨some g3, 136, NV .u32 (row ((digs B32 n).length + 1) (shR (n * 2 ^ s))), (digs B32 n).length + 1, true⟩, ⟨some g2, 136, NV .u32 (row ((digs B32 m).length + 1) (msT (m * 2 ^ s) W (dvD (n * 2 ^ s) W (digs B32 n).length G) j i)), (digs B32 m).length + 1, true⟩, ⟨some g4, 136, NV .u32 (row ((digs B32 m).length + 1 - (digs B32 n).length) (outT (m * 2 ^ s) (n * 2 ^ s) (j + 1))), ((digs B32 m).length + 1 - (digs B32 n).length), true⟩]⟩ _
        refine at_seq (at_region (r_cmpInt rfl rfl rfl rfl rfl (run_nil (at_tn (at_seq ?_)))))
        refine at_cond rfl (fun hb10 => ?_) (fun hb10 => ?_)
        ·
         have hlt : i < (digs B32 n).length := (by have := of_decide_eq_true hb10; omega)
         have hb1 := subB_le (W + B32 ^ ((digs B32 n).length + 1)) (G * (n * 2 ^ s)) i
         have hw1 := B32_mod (W / B32 ^ i)
         have hp1 := B32_mod (G * (n * 2 ^ s) / B32 ^ i)
         have hy1 := B32_mod ((n * 2 ^ s) / B32 ^ i)
         have hD1 := B32_mod ((dvD (n * 2 ^ s) W (digs B32 n).length G) / B32 ^ i)
         have hgs := gS_lt (n * 2 ^ s) G i hG4
         have hgc := gC_le (n * 2 ^ s) G i hG4
         refine at_skip (at_tn (at_seq (at_block (at_seq (at_region (r_move rfl rfl rfl (r_assign rfl rfl rfl (run_nil (at_tn (at_seq (at_region (r_move rfl rfl rfl (r_move rfl rfl rfl (r_move rfl rfl rfl (r_move rfl rfl rfl ?_)))))))))))))))
         refine r_indexAddr 0 (i) u161 ti136 rfl rfl rfl rfl rfl (by omega) (by omega) (NV_ne (by rw [row_length]; omega)) (by show 0 + Int.toNat _ * 1 = _; omega) ?_
         refine r_load1 0 (i) ti136 rfl rfl rfl rfl (NV_get ((row_get (by omega)).trans (congrArg some (show shR (n * 2 ^ s) i = (n * 2 ^ s) / B32 ^ i % B32 from rfl)))) ?_
         refine r_conv (r := (((n * 2 ^ s) / B32 ^ i % B32 : Nat) : Int)) u136 u116 rfl rfl rfl (c64 _ rfl (by omega)) ?_
         refine r_arith (r := ((G * ((n * 2 ^ s) / B32 ^ i % B32) : Nat) : Int)) rfl rfl rfl rfl (congrArg some (c64 _ (Int.natCast_mul _ _).symm hgs.2)) ?_
         refine r_arith (r := ((gS (n * 2 ^ s) G i : Nat) : Int)) rfl rfl rfl rfl (congrArg some (c64 _ (gS_cast _ _ _) hgs.1)) ?_
         refine r_assign rfl rfl rfl (run_nil (at_tn (at_seq (at_region (r_move rfl rfl rfl (r_move rfl rfl rfl (r_move rfl rfl rfl ?_)))))))
         refine r_arith (r := ((i + j : Nat) : Int)) rfl rfl rfl rfl (congrArg some (wi (by omega) (by omega) (by omega))) ?_
         refine r_indexAddr 1 (i + j) u161 ti136 rfl rfl rfl rfl rfl (by omega) (by omega) (NV_ne (by rw [row_length]; omega)) (by show 0 + Int.toNat _ * 1 = _; omega) ?_
         refine r_load1 1 (i + j) ti136 rfl rfl rfl rfl (NV_get ((row_get (by omega)).trans (congrArg some (msT_at _ _ _ j i)))) ?_
         refine r_conv (r := ((W / B32 ^ i % B32 : Nat) : Int)) u136 u2 rfl rfl rfl (wi (by omega) (by omega) (by omega)) ?_
         refine r_move rfl rfl rfl ?_
         refine r_arith (r := (((W / B32 ^ i % B32 : Nat) : Int) - ((subB (W + B32 ^ ((digs B32 n).length + 1)) (G * (n * 2 ^ s)) (i) : Nat) : Int))) rfl rfl rfl rfl (congrArg some (wi (by omega) (by omega) (by omega))) ?_
         refine r_move rfl rfl rfl ?_
         refine r_conv (r := ((G * (n * 2 ^ s) / B32 ^ i % B32 : Nat) : Int)) u116 u136 rfl rfl rfl ((c32 _ rfl).trans (by rw [gS_low])) ?_
         refine r_conv (r := ((G * (n * 2 ^ s) / B32 ^ i % B32 : Nat) : Int)) u136 u2 rfl rfl rfl (wi (by omega) (by omega) (by omega)) ?_
         refine r_arith (r := (((W / B32 ^ i % B32 : Nat) : Int) - ((subB (W + B32 ^ ((digs B32 n).length + 1)) (G * (n * 2 ^ s)) (i) : Nat) : Int) - ((G * (n * 2 ^ s) / B32 ^ i % B32 : Nat) : Int))) rfl rfl rfl rfl (congrArg some (wi (by omega) (by omega) (by omega))) ?_
         refine r_assign rfl rfl rfl (run_nil (at_tn (at_seq (at_region (r_move rfl rfl rfl ?_)))))
         refine r_shift (r := ((gC (n * 2 ^ s) G (i + 1) : Nat) : Int)) rfl rfl rfl rfl (by omega) (congrArg some ((shr_u _ 32 rfl rfl (by omega)).trans (by rw [gS_carry]))) ?_
         refine r_assign rfl rfl rfl (run_nil (at_tn (at_seq (at_region (r_assign rfl rfl rfl (run_nil (at_tn (at_seq (at_seq (at_region (r_move rfl rfl rfl (r_cmpInt rfl rfl rfl rfl rfl (run_nil (at_tn ?_))))))))))))))
         refine at_cond rfl (fun hb11 => ?_) (fun hb11 => ?_)
         ·
          obtain ⟨hd1, hd2⟩ := ms_neg (i := i) hd hG3 (by omega) (by have := of_decide_eq_true hb11; omega)
          refine at_region (r_move rfl rfl rfl ?_)
          refine r_arith (r := (((dvD (n * 2 ^ s) W (digs B32 n).length G) / B32 ^ i % B32 : Nat) : Int)) rfl rfl rfl rfl (congrArg some (wi (by omega) (by omega) (by omega))) ?_
          refine r_assign rfl rfl rfl (r_assign rfl rfl rfl (run_nil (at_tn (at_region (r_move rfl rfl rfl (r_move rfl rfl rfl (r_move rfl rfl rfl ?_)))))))
          refine r_arith (r := ((i + j : Nat) : Int)) rfl rfl rfl rfl (congrArg some (wi (by omega) (by omega) (by omega))) ?_
          refine r_move rfl rfl rfl ?_
          refine r_conv (r := (((dvD (n * 2 ^ s) W (digs B32 n).length G) / B32 ^ i % B32 : Nat) : Int)) u2 u136 rfl rfl rfl ((c32 _ rfl).trans (by rw [Nat.mod_eq_of_lt (by omega)])) ?_
          refine r_indexAddr 1 (i + j) u161 ti136 rfl rfl rfl rfl rfl (by omega) (by omega) (NV_ne (by rw [row_length]; omega)) (by show 0 + Int.toNat _ * 1 = _; omega) ?_
          refine r_store1 rfl 1 (i + j) [_, ⟨some g2, 136, _, _, true⟩, _] (NV .u32 (row ((digs B32 m).length + 1) (msT (m * 2 ^ s) W (dvD (n * 2 ^ s) W (digs B32 n).length G) j (i + 1)))) ti136 rfl rfl rfl rfl rfl rfl rfl rfl (by rw [NV_length, row_length]; omega) (by rw [NV_set, row_set (fun k _ => msT_step _ _ _ j i k)]) rfl ?_
          refine run_nil (at_bn (at_tn (at_region ?_)))
          refine r_arith (r := ((i + 1 : Nat) : Int)) rfl rfl rfl rfl (congrArg some (wi (by omega) (by omega) (by omega))) ?_
          refine r_move rfl rfl rfl (run_nil (at_tn ?_))
          exact nextL ⟨i + 1, hlt⟩ (by simp only []; omega) ⟨rfl, rfl, rfl, rfl, rfl, rfl, rfl, (look_val rfl (by rw [hd2]; rfl)), rfl, rfl, rfl, trivial⟩ (Weak.refl _)
         ·
          obtain ⟨hd1, hd2⟩ := ms_pos (i := i) hd hG3 (by omega) (by have := of_decide_eq_false hb11; omega)
          refine at_know 23 (.int .i64 ((dvD (n * 2 ^ s) W (digs B32 n).length G) / B32 ^ i % B32 : Nat)) rfl (congrArg (Value.int .i64) (by omega)) ?_
          refine at_skip (at_tn (at_region (r_move rfl rfl rfl (r_move rfl rfl rfl (r_move rfl rfl rfl ?_)))))
          refine r_arith (r := ((i + j : Nat) : Int)) rfl rfl rfl rfl (congrArg some (wi (by omega) (by omega) (by omega))) ?_
          refine r_move rfl rfl rfl ?_
          refine r_conv (r := (((dvD (n * 2 ^ s) W (digs B32 n).length G) / B32 ^ i % B32 : Nat) : Int)) u2 u136 rfl rfl rfl ((c32 _ rfl).trans (by rw [Nat.mod_eq_of_lt (by omega)])) ?_
          refine r_indexAddr 1 (i + j) u161 ti136 rfl rfl rfl rfl rfl (by omega) (by omega) (NV_ne (by rw [row_length]; omega)) (by show 0 + Int.toNat _ * 1 = _; omega) ?_
          refine r_store1 rfl 1 (i + j) [_, ⟨some g2, 136, _, _, true⟩, _] (NV .u32 (row ((digs B32 m).length + 1) (msT (m * 2 ^ s) W (dvD (n * 2 ^ s) W (digs B32 n).length G) j (i + 1)))) ti136 rfl rfl rfl rfl rfl rfl rfl rfl (by rw [NV_length, row_length]; omega) (by rw [NV_set, row_set (fun k _ => msT_step _ _ _ j i k)]) rfl ?_
          refine run_nil (at_bn (at_tn (at_region ?_)))
          refine r_arith (r := ((i + 1 : Nat) : Int)) rfl rfl rfl rfl (congrArg some (wi (by omega) (by omega) (by omega))) ?_
          refine r_move rfl rfl rfl (run_nil (at_tn ?_))
          exact nextL ⟨i + 1, hlt⟩ (by simp only []; omega) ⟨rfl, rfl, rfl, rfl, rfl, rfl, rfl, (look_val rfl (by rw [hd2]; rfl)), rfl, rfl, rfl, trivial⟩ (Weak.refl _)
        ·
         have hge : i = (digs B32 n).length := (by have := of_decide_eq_false hb10; omega)
         have hb1 := subB_le (W + B32 ^ ((digs B32 n).length + 1)) (G * (n * 2 ^ s)) i
         have hw1 := B32_mod (W / B32 ^ i)
         have hp1 := B32_mod (G * (n * 2 ^ s) / B32 ^ i)
         have hy1 := B32_mod ((n * 2 ^ s) / B32 ^ i)
         have hD1 := B32_mod ((dvD (n * 2 ^ s) W (digs B32 n).length G) / B32 ^ i)
         have hgs := gS_lt (n * 2 ^ s) G i hG4
         have hgc := gC_le (n * 2 ^ s) G i hG4
         refine at_exit (at_te (at_te (at_be (at_tn (at_seq (at_region (r_move rfl rfl rfl (r_move rfl rfl rfl (r_move rfl rfl rfl ?_)))))))))
         refine r_arith (r := ((i + j : Nat) : Int)) rfl rfl rfl rfl (congrArg some (wi (by omega) (by omega) (by omega))) ?_
         refine r_indexAddr 1 (i + j) u161 ti136 rfl rfl rfl rfl rfl (by omega) (by omega) (NV_ne (by rw [row_length]; omega)) (by show 0 + Int.toNat _ * 1 = _; omega) ?_
         refine r_load1 1 (i + j) ti136 rfl rfl rfl rfl (NV_get ((row_get (by omega)).trans (congrArg some (msT_at _ _ _ j i)))) ?_
         refine r_conv (r := ((W / B32 ^ i % B32 : Nat) : Int)) u136 u2 rfl rfl rfl (wi (by omega) (by omega) (by omega)) ?_
         refine r_move rfl rfl rfl ?_
         refine r_arith (r := (((W / B32 ^ i % B32 : Nat) : Int) - ((subB (W + B32 ^ ((digs B32 n).length + 1)) (G * (n * 2 ^ s)) (i) : Nat) : Int))) rfl rfl rfl rfl (congrArg some (wi (by omega) (by omega) (by omega))) ?_
         refine r_move rfl rfl rfl ?_
         refine r_conv (r := ((G * (n * 2 ^ s) / B32 ^ i % B32 : Nat) : Int)) u116 u2 rfl rfl rfl (by rw [hge, gC_last hd.hi hG4]; rw [hge] at hp1; exact wi (by omega) (by omega) rfl) ?_
         refine r_arith (r := (((W / B32 ^ i % B32 : Nat) : Int) - ((subB (W + B32 ^ ((digs B32 n).length + 1)) (G * (n * 2 ^ s)) (i) : Nat) : Int) - ((G * (n * 2 ^ s) / B32 ^ i % B32 : Nat) : Int))) rfl rfl rfl rfl (congrArg some (wi (by omega) (by omega) (by omega))) ?_
         refine r_assign rfl rfl rfl (run_nil (at_tn (at_seq (at_region (r_move rfl rfl rfl (r_move rfl rfl rfl (r_move rfl rfl rfl ?_)))))))
         refine r_arith (r := ((i + j : Nat) : Int)) rfl rfl rfl rfl (congrArg some (wi (by omega) (by omega) (by omega))) ?_
         refine r_move rfl rfl rfl ?_
         refine r_conv (r := (((dvD (n * 2 ^ s) W (digs B32 n).length G) / B32 ^ i % B32 : Nat) : Int)) u2 u136 rfl rfl rfl (ms_u32 hd hG3 (by omega)) ?_
         refine r_indexAddr 1 (i + j) u161 ti136 rfl rfl rfl rfl rfl (by omega) (by omega) (NV_ne (by rw [row_length]; omega)) (by show 0 + Int.toNat _ * 1 = _; omega) ?_
         refine r_store1 rfl 1 (i + j) [_, ⟨some g2, 136, _, _, true⟩, _] (NV .u32 (row ((digs B32 m).length + 1) (msT (m * 2 ^ s) W (dvD (n * 2 ^ s) W (digs B32 n).length G) j ((digs B32 n).length + 1)))) ti136 rfl rfl rfl rfl rfl rfl rfl rfl (by rw [NV_length, row_length]; omega) (by rw [hge, NV_set, row_set (fun k _ => msT_step _ _ _ j _ k)]) rfl ?_
         refine run_nil (at_tn (at_seq (at_seq (at_region (r_move rfl rfl rfl (r_cmpInt rfl rfl rfl rfl rfl (run_nil (at_tn ?_))))))))
         refine at_cond rfl (fun hb11 => ?_) (fun hb11 => ?_)
         ·
          obtain ⟨hd1, hd2⟩ := ms_neg (i := i) hd hG3 (by omega) (by have := of_decide_eq_true hb11; omega)
          rw [hge] at hd2
          have hG5 := dv_neg hd hG3 hG2 hd2
          have hG6 : G - 1 = (m * 2 ^ s) / (n * 2 ^ s) / B32 ^ j % B32 := by omega
          have hG0 : 0 < G := by omega
          subst hge
          refine at_seq (at_region (r_move rfl rfl rfl ?_))
          refine r_arith (r := ((G - 1 : Nat) : Int)) rfl rfl rfl rfl (congrArg some (c64 _ (by omega) (by omega))) ?_
          refine r_assign rfl rfl rfl (run_nil (at_tn (at_seq (at_region (r_assign rfl rfl rfl (run_nil (at_tn (at_seq (at_seq (at_region (r_move rfl rfl rfl (r_move rfl rfl rfl (run_nil (at_tn (at_block ?_)))))))))))))))
          refine enterL (nt := 304) (ι := {i : Nat // i ≤ (digs B32 n).length}) (fun ⟨i, hi⟩ => [(9, slv (some g3) 0 (digs B32 n).length ((digs B32 n).length + 1)), (12, .int .i64 (s : Nat)), (13, slv (some g2) 0 ((digs B32 m).length + 1) ((digs B32 m).length + 1)), (14, .int .i64 ((digs B32 n).length : Nat)), (15, slv (some g4) 0 ((digs B32 m).length + 1 - (digs B32 n).length) ((digs B32 m).length + 1 - (digs B32 n).length)), (16, .int .i64 (j : Nat)), (18, .int .u64 (G - 1 : Nat)), (25, .int .u64 (addC (dvD (n * 2 ^ s) W (digs B32 n).length G) (n * 2 ^ s) i : Nat)), (230, .int .i64 ((digs B32 n).length : Nat)), (231, .int .i64 (i : Nat))]) (fun ⟨i, hi⟩ => [⟨some g3, 136, NV .u32 (row ((digs B32 n).length + 1) (shR (n * 2 ^ s))), (digs B32 n).length + 1, true⟩, ⟨some g2, 136, NV .u32 (row ((digs B32 m).length + 1) (abT (m * 2 ^ s) (n * 2 ^ s) W (dvD (n * 2 ^ s) W (digs B32 n).length G) (digs B32 n).length j i)), (digs B32 m).length + 1, true⟩, ⟨some g4, 136, NV .u32 (row ((digs B32 m).length + 1 - (digs B32 n).length) (outT (m * 2 ^ s) (n * 2 ^ s) (j + 1))), ((digs B32 m).length + 1 - (digs B32 n).length), true⟩]) (fun ⟨i, hi⟩ => (digs B32 n).length - i) ⟨0, Nat.zero_le _⟩ ⟨rfl, rfl, rfl, rfl, rfl, rfl, rfl, (look_val rfl (by rw [addC_zero]; rfl)), rfl, rfl, trivial⟩ (weak_eq (congrArg (fun c => [⟨some g3, 136, NV .u32 (row ((digs B32 n).length + 1) (shR (n * 2 ^ s))), (digs B32 n).length + 1, true⟩, (⟨some g2, 136, NV .u32 c, (digs B32 m).length + 1, true⟩ : Blk), ⟨some g4, 136, NV .u32 (row ((digs B32 m).length + 1 - (digs B32 n).length) (outT (m * 2 ^ s) (n * 2 ^ s) (j + 1))), ((digs B32 m).length + 1 - (digs B32 n).length), true⟩]) (row_congr fun k _ => abT_zero (m * 2 ^ s) (n * 2 ^ s) W (dvD (n * 2 ^ s) W (digs B32 n).length G) (digs B32 n).length j k))) ?_
          rintro ⟨i, hi⟩
          show At _ ⟨304, [(9, slv (some g3) 0 (digs B32 n).length ((digs B32 n).length + 1)), (12, .int .i64 (s : Nat)), (13, slv (some g2) 0 ((digs B32 m).length + 1) ((digs B32 m).length + 1)), (14, .int .i64 ((digs B32 n).length : Nat)), (15, slv (some g4) 0 ((digs B32 m).length + 1 - (digs B32 n).length) ((digs B32 m).length + 1 - (digs B32 n).length)), (16, .int .i64 (j : Nat)), (18, .int .u64 (G - 1 : Nat)), (25, .int .u64 (addC (dvD (n * 2 ^ s) W (digs B32 n).length G) (n * 2 ^ s) i : Nat)), (230, .int .i64 ((digs B32 n).length : Nat)), (231, .int .i64 (i : Nat))], [⟨some g3, 136, NV .u32 (row ((digs B32 n).length + 1) (shR (n * 2 ^ s))), (digs B32 n).length + 1, true⟩, ⟨some g2, 136, NV .u32 (row ((digs B32 m).length + 1) (abT (m * 2 ^ s) (n * 2 ^ s) W (dvD (n * 2 ^ s) W (digs B32 n).length G) (digs B32 n).length j i)), (digs B32 m).length + 1, true⟩, ⟨some g4, 136, NV .u32 (row ((digs B32 m).length + 1 - (digs B32 n).length) (outT (m * 2 ^ s) (n * 2 ^ s) (j + 1))), ((digs B32 m).length + 1 - (digs B32 n).length), true⟩]⟩ _
          refine at_seq (at_region (r_cmpInt rfl rfl rfl rfl rfl (run_nil (at_tn (at_seq ?_)))))
          refine at_cond rfl (fun hb13 => ?_) (fun hb13 => ?_)
          ·
           have hlt : i < (digs B32 n).length := (by have := of_decide_eq_true hb13; omega)
           have hD1 := B32_mod ((dvD (n * 2 ^ s) W (digs B32 n).length G) / B32 ^ i)
           have hy1 := B32_mod ((n * 2 ^ s) / B32 ^ i)
           have hac := addC_le (dvD (n * 2 ^ s) W (digs B32 n).length G) (n * 2 ^ s) i
           have has := addS_lt (dvD (n * 2 ^ s) W (digs B32 n).length G) (n * 2 ^ s) i
           refine at_skip (at_tn (at_seq (at_block (at_seq (at_region (r_move rfl rfl rfl (r_assign rfl rfl rfl (run_nil (at_tn (at_seq ?_))))))))))
           refine at_drawn (l' := [⟨_,_,_,_,_,_⟩, ⟨_,_,_,_,_,_⟩, ⟨_,_,_,_,_,_⟩, ⟨_,_,_,_,_,_⟩, ⟨_,_,_,_,_,_⟩, ⟨_,_,_,_,_,_⟩, ⟨_,_,_,_,_,_⟩, ⟨_,_,_,_,_,_⟩, ⟨_,_,_,_,_,_⟩, ⟨_,_,_,_,_,_⟩, ⟨_,_,_,_,_,_⟩, ⟨_,_,_,_,_,_⟩, ⟨_,_,_,_,_,_⟩, ⟨_,_,_,_,_,_⟩, ⟨_,_,_,_,_,_⟩, ⟨_,_,_,_,_,_⟩]) [] [0, 1, 2, 3, 4, 5, 6, 7, 8, 9, 10, 11, 12, 13, 14, 15] mixed (by kernel_rfl) rfl (by kernel_rfl) ?_
           refine r_move rfl rfl rfl (r_move rfl rfl rfl (r_move rfl rfl rfl (r_move rfl rfl rfl ?_)))
           refine r_arith (r := ((i + j : Nat) : Int)) rfl rfl rfl rfl (congrArg some (wi (by omega) (by omega) (by omega))) ?_
           refine r_indexAddr 1 (i + j) u161 ti136 rfl rfl rfl rfl rfl (by omega) (by omega) (NV_ne (by rw [row_length]; omega)) (by show 0 + Int.toNat _ * 1 = _; omega) ?_
           refine r_load1 1 (i + j) ti136 rfl rfl rfl rfl (NV_get ((row_get (by omega)).trans (congrArg some (abT_at _ _ _ _ _ j i (by omega))))) ?_
           refine r_conv (r := (((dvD (n * 2 ^ s) W (digs B32 n).length G) / B32 ^ i % B32 : Nat) : Int)) u136 u116 rfl rfl rfl (c64 _ rfl (by omega)) ?_
           refine r_move rfl rfl rfl (r_move rfl rfl rfl ?_)
           refine r_indexAddr 0 (i) u161 ti136 rfl rfl rfl rfl rfl (by omega) (by omega) (NV_ne (by rw [row_length]; omega)) (by show 0 + Int.toNat _ * 1 = _; omega) ?_
           refine r_load1 0 (i) ti136 rfl rfl rfl rfl (NV_get ((row_get (by omega)).trans (congrArg some (show shR (n * 2 ^ s) i = (n * 2 ^ s) / B32 ^ i % B32 from rfl)))) ?_
           refine r_conv (r := (((n * 2 ^ s) / B32 ^ i % B32 : Nat) : Int)) u136 u116 rfl rfl rfl (c64 _ rfl (by omega)) ?_
           refine r_arith (r := (((dvD (n * 2 ^ s) W (digs B32 n).length G) / B32 ^ i % B32 + (n * 2 ^ s) / B32 ^ i % B32 : Nat) : Int)) rfl rfl rfl rfl (congrArg some (c64 _ rfl (by omega))) ?_
           refine r_arith (r := ((addS (dvD (n * 2 ^ s) W (digs B32 n).length G) (n * 2 ^ s) i : Nat) : Int)) rfl rfl rfl rfl (congrArg some (c64 _ (addS_cast _ _ _) (by omega))) ?_
           refine r_assign rfl rfl rfl (run_nil (at_tn (at_region (r_move rfl rfl rfl (r_move rfl rfl rfl (r_move rfl rfl rfl ?_))))))
           refine r_arith (r := ((i + j : Nat) : Int)) rfl rfl rfl rfl (congrArg some (wi (by omega) (by omega) (by omega))) ?_
           refine r_move rfl rfl rfl ?_
           refine r_conv (r := ((addS (dvD (n * 2 ^ s) W (digs B32 n).length G) (n * 2 ^ s) i % 4294967296 : Nat) : Int)) u116 u136 rfl rfl rfl (c32 _ rfl) ?_
           refine r_move rfl rfl rfl ?_
           refine r_shift (r := ((addC (dvD (n * 2 ^ s) W (digs B32 n).length G) (n * 2 ^ s) (i + 1) : Nat) : Int)) rfl rfl rfl rfl (by omega) (congrArg some ((shr_u _ 32 rfl rfl (by omega)).trans (by rw [addS_carry]))) ?_
           refine r_indexAddr 1 (i + j) u161 ti136 rfl rfl rfl rfl rfl (by omega) (by omega) (NV_ne (by rw [row_length]; omega)) (by show 0 + Int.toNat _ * 1 = _; omega) ?_
           refine r_store1 rfl 1 (i + j) [_, ⟨some g2, 136, _, _, true⟩, _] (NV .u32 (row ((digs B32 m).length + 1) (abT (m * 2 ^ s) (n * 2 ^ s) W (dvD (n * 2 ^ s) W (digs B32 n).length G) (digs B32 n).length j (i + 1)))) ti136 rfl rfl rfl rfl rfl rfl rfl rfl (by rw [NV_length, row_length]; omega) (by rw [NV_set, row_set (fun k _ => abT_step _ _ _ _ _ j i k)]) rfl ?_
           refine r_assign rfl rfl rfl (run_nil (at_bn (at_tn (at_region ?_))))
           refine r_arith (r := ((i + 1 : Nat) : Int)) rfl rfl rfl rfl (congrArg some (wi (by omega) (by omega) (by omega))) ?_
           refine r_move rfl rfl rfl (run_nil (at_tn ?_))
           exact nextL ⟨i + 1, hlt⟩ (by simp only []; omega) ⟨rfl, rfl, rfl, rfl, rfl, rfl, rfl, rfl, rfl, rfl, trivial⟩ (Weak.refl _)
          ·
           have hge2 : i = (digs B32 n).length := (by have := of_decide_eq_false hb13; omega)
           subst hge2
           have hD1 := B32_mod ((dvD (n * 2 ^ s) W (digs B32 n).length G) / B32 ^ (digs B32 n).length)
           have hac := addC_le (dvD (n * 2 ^ s) W (digs B32 n).length G) (n * 2 ^ s) (digs B32 n).length
           refine at_exit (at_te (at_te (at_be (at_tn (at_region (r_move rfl rfl rfl (r_move rfl rfl rfl (r_move rfl rfl rfl ?_))))))))
           refine r_arith (r := (((digs B32 n).length + j : Nat) : Int)) rfl rfl rfl rfl (congrArg some (wi (by omega) (by omega) (by omega))) ?_
           refine r_indexAddr 1 ((digs B32 n).length + j) u161 ti136 rfl rfl rfl rfl rfl (by omega) (by omega) (NV_ne (by rw [row_length]; omega)) (by show 0 + Int.toNat _ * 1 = _; omega) ?_
           refine r_load1 1 ((digs B32 n).length + j) ti136 rfl rfl rfl rfl (NV_get ((row_get (by omega)).trans (congrArg some (abT_at _ _ _ _ _ j (digs B32 n).length (by omega))))) ?_
           refine r_move rfl rfl rfl ?_
           refine r_conv (r := ((addC (dvD (n * 2 ^ s) W (digs B32 n).length G) (n * 2 ^ s) (digs B32 n).length % 4294967296 : Nat) : Int)) u116 u136 rfl rfl rfl (c32 _ rfl) ?_
           refine r_arith (r := ((addS (dvD (n * 2 ^ s) W (digs B32 n).length G) (n * 2 ^ s) (digs B32 n).length % 4294967296 : Nat) : Int)) rfl rfl rfl rfl (congrArg some ((c32 _ rfl).trans (by rw [ab_low _ _ _ hd.hi]))) ?_
           refine r_indexAddr 1 ((digs B32 n).length + j) u161 ti136 rfl rfl rfl rfl rfl (by omega) (by omega) (NV_ne (by rw [row_length]; omega)) (by show 0 + Int.toNat _ * 1 = _; omega) ?_
           refine r_store1 rfl 1 ((digs B32 n).length + j) [_, ⟨some g2, 136, _, _, true⟩, _] (NV .u32 (row ((digs B32 m).length + 1) (abT (m * 2 ^ s) (n * 2 ^ s) W (dvD (n * 2 ^ s) W (digs B32 n).length G) (digs B32 n).length j ((digs B32 n).length + 1)))) ti136 rfl rfl rfl rfl rfl rfl rfl rfl (by rw [NV_length, row_length]; omega) (by rw [NV_set, row_set (fun k _ => abT_step _ _ _ _ _ j _ k)]) rfl ?_
           refine run_nil (at_tn (at_region (r_move rfl rfl rfl (r_move rfl rfl rfl (r_move rfl rfl rfl ?_)))))
           refine r_conv (r := (((m * 2 ^ s) / (n * 2 ^ s) / B32 ^ j % B32 : Nat) : Int)) u116 u136 rfl rfl rfl ((c32 _ rfl).trans (by rw [hG6]; show ((_ % B32 % B32 : Nat) : Int) = _; rw [Nat.mod_mod])) ?_
           refine r_indexAddr 2 (j) u161 ti136 rfl rfl rfl rfl rfl (by omega) (by omega) (NV_ne (by rw [row_length]; omega)) (by show 0 + Int.toNat _ * 1 = _; omega) ?_
           refine r_store1 rfl 2 (j) [_, _, ⟨some g4, 136, _, _, true⟩] (NV .u32 (row ((digs B32 m).length + 1 - (digs B32 n).length) (outT (m * 2 ^ s) (n * 2 ^ s) j))) ti136 rfl rfl rfl rfl rfl rfl rfl rfl (by rw [NV_length, row_length]; omega) (by rw [NV_set, row_set (fun k _ => outT_step _ _ j k)]) rfl ?_
           refine run_nil (at_bn (at_tn (at_region (r_move rfl rfl rfl ?_))))
           refine r_arith (r := ((j : Nat) : Int) - 1) rfl rfl rfl rfl (congrArg some (wi (by omega) (by omega) (by omega))) ?_
           refine r_assign rfl rfl rfl (run_nil (at_tn ?_))
           exact nextL ⟨j, by omega⟩ (by simp only []; omega) ⟨rfl, rfl, rfl, rfl, rfl, rfl, trivial⟩ (weak_eq (congrArg (fun c => [⟨some g3, 136, NV .u32 (row ((digs B32 n).length + 1) (shR (n * 2 ^ s))), (digs B32 n).length + 1, true⟩, (⟨some g2, 136, NV .u32 c, (digs B32 m).length + 1, true⟩ : Blk), ⟨some g4, 136, NV .u32 (row ((digs B32 m).length + 1 - (digs B32 n).length) (outT (m * 2 ^ s) (n * 2 ^ s) (j))), ((digs B32 m).length + 1 - (digs B32 n).length), true⟩]) (row_congr fun k _ => (ab_end hd hG5).trans (by rw [hr]))))
         ·
          obtain ⟨hd1, hd2⟩ := ms_pos (i := i) hd hG3 (by omega) (by have := of_decide_eq_false hb11; omega)
          rw [hge] at hd2
          have hG5 := dv_pos hd hG3 hG2 hG4 hd2
          have hG6 : G = (m * 2 ^ s) / (n * 2 ^ s) / B32 ^ j % B32 := by omega
          subst hge
          refine at_skip (at_tn (at_region (r_move rfl rfl rfl (r_move rfl rfl rfl (r_move rfl rfl rfl ?_)))))
          refine r_conv (r := (((m * 2 ^ s) / (n * 2 ^ s) / B32 ^ j % B32 : Nat) : Int)) u116 u136 rfl rfl rfl ((c32 _ rfl).trans (by rw [hG6]; show ((_ % B32 % B32 : Nat) : Int) = _; rw [Nat.mod_mod])) ?_
          refine r_indexAddr 2 (j) u161 ti136 rfl rfl rfl rfl rfl (by omega) (by omega) (NV_ne (by rw [row_length]; omega)) (by show 0 + Int.toNat _ * 1 = _; omega) ?_
          refine r_store1 rfl 2 (j) [_, _, ⟨some g4, 136, _, _, true⟩] (NV .u32 (row ((digs B32 m).length + 1 - (digs B32 n).length) (outT (m * 2 ^ s) (n * 2 ^ s) j))) ti136 rfl rfl rfl rfl rfl rfl rfl rfl (by rw [NV_length, row_length]; omega) (by rw [NV_set, row_set (fun k _ => outT_step _ _ j k)]) rfl ?_
          refine run_nil (at_bn (at_tn (at_region (r_move rfl rfl rfl ?_))))
          refine r_arith (r := ((j : Nat) : Int) - 1) rfl rfl rfl rfl (congrArg some (wi (by omega) (by omega) (by omega))) ?_
          refine r_assign rfl rfl rfl (run_nil (at_tn ?_))
          exact nextL ⟨j, by omega⟩ (by simp only []; omega) ⟨rfl, rfl, rfl, rfl, rfl, rfl, trivial⟩ (weak_eq (congrArg (fun c => [⟨some g3, 136, NV .u32 (row ((digs B32 n).length + 1) (shR (n * 2 ^ s))), (digs B32 n).length + 1, true⟩, (⟨some g2, 136, NV .u32 c, (digs B32 m).length + 1, true⟩ : Blk), ⟨some g4, 136, NV .u32 (row ((digs B32 m).length + 1 - (digs B32 n).length) (outT (m * 2 ^ s) (n * 2 ^ s) (j))), ((digs B32 m).length + 1 - (digs B32 n).length), true⟩]) (row_congr fun k _ => (ms_end hd hG5).trans (by rw [hr]))))
       ·
        have hr32 : r + (n * 2 ^ s) / B32 ^ ((digs B32 n).length - 1) < 4294967296 := by have := of_decide_eq_false hb8; omega
        refine at_skip (at_bn (at_tn ?_))
        exact nextL ⟨(g - 1, r + (n * 2 ^ s) / B32 ^ ((digs B32 n).length - 1)), g_next hd hg hq (by omega)⟩ (by simp only []; omega) ⟨rfl, rfl, rfl, rfl, rfl, rfl, rfl, rfl, trivial⟩ (Weak.refl _)
      ·
       obtain ⟨G, hG1, hG2, hG3, hG4⟩ : ∃ G, G = g ∧ W / (n * 2 ^ s) ≤ G ∧ G ≤ W / (n * 2 ^ s) + 1 ∧ G ≤ 4294967296 := ⟨g, rfl, hg.2.2.1, g_end1 hd hg hg32 (Nat.not_lt.1 fun c => absurd (Int.ofNat_lt.2 c) (of_decide_eq_false hb7)), by omega⟩
       refine at_know 18 (.int .u64 (G : Nat)) rfl (by rw [hG1]) ?_
       refine at_exit (at_te (at_te (at_be (at_tn (at_seq (at_region (r_assign rfl rfl rfl (r_assign rfl rfl rfl (run_nil (at_tn (at_seq (at_seq (at_region (r_move rfl rfl rfl (r_move rfl rfl rfl (run_nil (at_tn (at_block ?_))))))))))))))))))
       refine enterL (nt := 304) (ι := {i : Nat // i ≤ (digs B32 n).length}) (fun ⟨i, hi⟩ => [(9, slv (some g3) 0 (digs B32 n).length ((digs B32 n).length + 1)), (12, .int .i64 (s : Nat)), (13, slv (some g2) 0 ((digs B32 m).length + 1) ((digs B32 m).length + 1)), (14, .int .i64 ((digs B32 n).length : Nat)), (15, slv (some g4) 0 ((digs B32 m).length + 1 - (digs B32 n).length) ((digs B32 m).length + 1 - (digs B32 n).length)), (16, .int .i64 (j : Nat)), (18, .int .u64 (G : Nat)), (20, .int .i64 (subB (W + B32 ^ ((digs B32 n).length + 1)) (G * (n * 2 ^ s)) (i) : Nat)), (21, .int .u64 (gC (n * 2 ^ s) G i : Nat)), (167, .int .i64 ((digs B32 n).length : Nat)), (168, .int .i64 (i : Nat))]) (fun ⟨i, hi⟩ => [⟨some g3, 136, NV .u32 (row ((digs B32 n).length + 1) (shR (n * 2 ^ s))), (digs B32 n).length + 1, true⟩, ⟨some g2, 136, NV .u32 (row ((digs B32 m).length + 1) (msT (m * 2 ^ s) W (dvD (n * 2 ^ s) W (digs B32 n).length G) j i)), (digs B32 m).length + 1, true⟩, ⟨some g4, 136, NV .u32 (row ((digs B32 m).length + 1 - (digs B32 n).length) (outT (m * 2 ^ s) (n * 2 ^ s) (j + 1))), ((digs B32 m).length + 1 - (digs B32 n).length), true⟩]) (fun ⟨i, hi⟩ => (digs B32 n).length - i) ⟨0, Nat.zero_le _⟩ ⟨rfl, rfl, rfl, rfl, rfl, rfl, rfl, (look_val rfl (by rw [subB_zero]; rfl)), (look_val rfl (by rw [gC_zero]; rfl)), rfl, rfl, trivial⟩ (weak_eq (congrArg (fun c => [⟨some g3, 136, NV .u32 (row ((digs B32 n).length + 1) (shR (n * 2 ^ s))), (digs B32 n).length + 1, true⟩, (⟨some g2, 136, NV .u32 c, (digs B32 m).length + 1, true⟩ : Blk), ⟨some g4, 136, NV .u32 (row ((digs B32 m).length + 1 - (digs B32 n).length) (outT (m * 2 ^ s) (n * 2 ^ s) (j + 1))), ((digs B32 m).length + 1 - (digs B32 n).length), true⟩]) (row_congr fun k _ => xw_ms hW (dvD (n * 2 ^ s) W (digs B32 n).length G) k))) ?_
       rintro ⟨i, hi⟩
       show At _ ⟨304, [(9, slv (some g3) 0 (digs B32 n).length ((digs B32 n).length + 1)), (12, .int .i64 (s : Nat)), (13, slv (some g2) 0 ((digs B32 m).length + 1) ((digs B32 m).length + 1)), (14, .int .i64 ((digs B32 n).length : Nat)), (15, slv (some g4) 0 ((digs B32 m).length + 1 - (digs B32 n).length) ((digs B32 m).length + 1 - (digs B32 n).length)), (16, .int .i64 (j : Nat)), (18, .int .u64 (G : Nat)), (20, .int .i64 (subB (W + B32 ^ ((digs B32 n).length + 1)) (G * (n * 2 ^ s)) (i) : Nat)), (21, .int .u64 (gC (n * 2 ^ s) G i : Nat)), (167, .int .i64 ((digs B32 n).length : Nat)), (168, .int .i64 (i : Nat))], [⟨some g3, 136, NV .u32 (row ((digs B32 n).length + 1) (shR (n * 2 ^ s))), (digs B32 n).length + 1, true⟩, ⟨some g2, 136, NV .u32 (row ((digs B32 m).length + 1) (msT (m * 2 ^ s) W (dvD (n * 2 ^ s) W (digs B32 n).length G) j i)), (digs B32 m).length + 1, true⟩, ⟨some g4, 136, NV .u32 (row ((digs B32 m).length + 1 - (digs B32 n).length) (outT (m * 2 ^ s) (n * 2 ^ s) (j + 1))), ((digs B32 m).length + 1 - (digs B32 n).length), true⟩]⟩ _
       refine at_seq (at_region (r_cmpInt rfl rfl rfl rfl rfl (run_nil (at_tn (at_seq ?_)))))
       refine at_cond rfl (fun hb9 => ?_) (fun hb9 => ?_)
       ·
        have hlt : i < (digs B32 n).length := (by have := of_decide_eq_true hb9; omega)
        have hb1 := subB_le (W + B32 ^ ((digs B32 n).length + 1)) (G * (n * 2 ^ s)) i
        have hw1 := B32_mod (W / B32 ^ i)
        have hp1 := B32_mod (G * (n * 2 ^ s) / B32 ^ i)
        have hy1 := B32_mod ((n * 2 ^ s) / B32 ^ i)
        have hD1 := B32_mod ((dvD (n * 2 ^ s) W (digs B32 n).length G) / B32 ^ i)
        have hgs := gS_lt (n * 2 ^ s) G i hG4
        have hgc := gC_le (n * 2 ^ s) G i hG4
        refine at_skip (at_tn (at_seq (at_block (at_seq (at_region (r_move rfl rfl rfl (r_assign rfl rfl rfl (run_nil (at_tn (at_seq (at_region (r_move rfl rfl rfl (r_move rfl rfl rfl (r_move rfl rfl rfl (r_move rfl rfl rfl ?_)))))))))))))))
        refine r_indexAddr 0 (i) u161 ti136 rfl rfl rfl rfl rfl (by omega) (by omega) (NV_ne (by rw [row_length]; omega)) (by show 0 + Int.toNat _ * 1 = _; omega) ?_
        refine r_load1 0 (i) ti136 rfl rfl rfl rfl (NV_get ((row_get (by omega)).trans (congrArg some (show shR (n * 2 ^ s) i = (n * 2 ^ s) / B32 ^ i % B32 from rfl)))) ?_
        refine r_conv (r := (((n * 2 ^ s) / B32 ^ i % B32 : Nat) : Int)) u136 u116 rfl rfl rfl (c64 _ rfl (by omega)) ?_
        refine r_arith (r := ((G * ((n * 2 ^ s) / B32 ^ i % B32) : Nat) : Int)) rfl rfl rfl rfl (congrArg some (c64 _ (Int.natCast_mul _ _).symm hgs.2)) ?_
        refine r_arith (r := ((gS (n * 2 ^ s) G i : Nat) : Int)) rfl rfl rfl rfl (congrArg some (c64 _ (gS_cast _ _ _) hgs.1)) ?_
        refine r_assign rfl rfl rfl (run_nil (at_tn (at_seq (at_region (r_move rfl rfl rfl (r_move rfl rfl rfl (r_move rfl rfl rfl ?_)))))))
        refine r_arith (r := ((i + j : Nat) : Int)) rfl rfl rfl rfl (congrArg some (wi (by omega) (by omega) (by omega))) ?_
        refine r_indexAddr 1 (i + j) u161 ti136 rfl rfl rfl rfl rfl (by omega) (by omega) (NV_ne (by rw [row_length]; omega)) (by show 0 + Int.toNat _ * 1 = _; omega) ?_
        refine r_load1 1 (i + j) ti136 rfl rfl rfl rfl (NV_get ((row_get (by omega)).trans (congrArg some (msT_at _ _ _ j i)))) ?_
        refine r_conv (r := ((W / B32 ^ i % B32 : Nat) : Int)) u136 u2 rfl rfl rfl (wi (by omega) (by omega) (by omega)) ?_
        refine r_move rfl rfl rfl ?_
        refine r_arith (r := (((W / B32 ^ i % B32 : Nat) : Int) - ((subB (W + B32 ^ ((digs B32 n).length + 1)) (G * (n * 2 ^ s)) (i) : Nat) : Int))) rfl rfl rfl rfl (congrArg some (wi (by omega) (by omega) (by omega))) ?_
        refine r_move rfl rfl rfl ?_
        refine r_conv (r := ((G * (n * 2 ^ s) / B32 ^ i % B32 : Nat) : Int)) u116 u136 rfl rfl rfl ((c32 _ rfl).trans (by rw [gS_low])) ?_
        refine r_conv (r := ((G * (n * 2 ^ s) / B32 ^ i % B32 : Nat) : Int)) u136 u2 rfl rfl rfl (wi (by omega) (by omega) (by omega)) ?_
        refine r_arith (r := (((W / B32 ^ i % B32 : Nat) : Int) - ((subB (W + B32 ^ ((digs B32 n).length + 1)) (G * (n * 2 ^ s)) (i) : Nat) : Int) - ((G * (n * 2 ^ s) / B32 ^ i % B32 : Nat) : Int))) rfl rfl rfl rfl (congrArg some (wi (by omega) (by omega) (by omega))) ?_
        refine r_assign rfl rfl rfl (run_nil (at_tn (at_seq (at_region (r_move rfl rfl rfl ?_)))))
        refine r_shift (r := ((gC (n * 2 ^ s) G (i + 1) : Nat) : Int)) rfl rfl rfl rfl (by omega) (congrArg some ((shr_u _ 32 rfl rfl (by omega)).trans (by rw [gS_carry]))) ?_
        refine r_assign rfl rfl rfl (run_nil (at_tn (at_seq (at_region (r_assign rfl rfl rfl (run_nil (at_tn (at_seq (at_seq (at_region (r_move rfl rfl rfl (r_cmpInt rfl rfl rfl rfl rfl (run_nil (at_tn ?_))))))))))))))
        refine at_cond rfl (fun hb10 => ?_) (fun hb10 => ?_)
        ·
         obtain ⟨hd1, hd2⟩ := ms_neg (i := i) hd hG3 (by omega) (by have := of_decide_eq_true hb10; omega)
         refine at_region (r_move rfl rfl rfl ?_)
         refine r_arith (r := (((dvD (n * 2 ^ s) W (digs B32 n).length G) / B32 ^ i % B32 : Nat) : Int)) rfl rfl rfl rfl (congrArg some (wi (by omega) (by omega) (by omega))) ?_
         refine r_assign rfl rfl rfl (r_assign rfl rfl rfl (run_nil (at_tn (at_region (r_move rfl rfl rfl (r_move rfl rfl rfl (r_move rfl rfl rfl ?_)))))))
         refine r_arith (r := ((i + j : Nat) : Int)) rfl rfl rfl rfl (congrArg some (wi (by omega) (by omega) (by omega))) ?_
         refine r_move rfl rfl rfl ?_
         refine r_conv (r := (((dvD (n * 2 ^ s) W (digs B32 n).length G) / B32 ^ i % B32 : Nat) : Int)) u2 u136 rfl rfl rfl ((c32 _ rfl).trans (by rw [Nat.mod_eq_of_lt (by omega)])) ?_
         refine r_indexAddr 1 (i + j) u161 ti136 rfl rfl rfl rfl rfl (by omega) (by omega) (NV_ne (by rw [row_length]; omega)) (by show 0 + Int.toNat _ * 1 = _; omega) ?_
         refine r_store1 rfl 1 (i + j) [_, ⟨some g2, 136, _, _, true⟩, _] (NV .u32 (row ((digs B32 m).length + 1) (msT (m * 2 ^ s) W (dvD (n * 2 ^ s) W (digs B32 n).length G) j (i + 1)))) ti136 rfl rfl rfl rfl rfl rfl rfl rfl (by rw [NV_length, row_length]; omega) (by rw [NV_set, row_set (fun k _ => msT_step _ _ _ j i k)]) rfl ?_
         refine run_nil (at_bn (at_tn (at_region ?_)))
         refine r_arith (r := ((i + 1 : Nat) : Int)) rfl rfl rfl rfl (congrArg some (wi (by omega) (by omega) (by omega))) ?_
         refine r_move rfl rfl rfl (run_nil (at_tn ?_))
         exact nextL ⟨i + 1, hlt⟩ (by simp only []; omega) ⟨rfl, rfl, rfl, rfl, rfl, rfl, rfl, (look_val rfl (by rw [hd2]; rfl)), rfl, rfl, rfl, trivial⟩ (Weak.refl _)
        ·
         obtain ⟨hd1, hd2⟩ := ms_pos (i := i) hd hG3 (by omega) (by have := of_decide_eq_false hb10; omega)
         refine at_know 23 (.int .i64 ((dvD (n * 2 ^ s) W (digs B32 n).length G) / B32 ^ i % B32 : Nat)) rfl (congrArg (Value.int .i64) (by omega)) ?_
         refine at_skip (at_tn (at_region (r_move rfl rfl rfl (r_move rfl rfl rfl (r_move rfl rfl rfl ?_)))))
         refine r_arith (r := ((i + j : Nat) : Int)) rfl rfl rfl rfl (congrArg some (wi (by omega) (by omega) (by omega))) ?_
         refine r_move rfl rfl rfl ?_
         refine r_conv (r := (((dvD (n * 2 ^ s) W (digs B32 n).length G) / B32 ^ i % B32 : Nat) : Int)) u2 u136 rfl rfl rfl ((c32 _ rfl).trans (by rw [Nat.mod_eq_of_lt (by omega)])) ?_
         refine r_indexAddr 1 (i + j) u161 ti136 rfl rfl rfl rfl rfl (by omega) (by omega) (NV_ne (by rw [row_length]; omega)) (by show 0 + Int.toNat _ * 1 = _; omega) ?_
         refine r_store1 rfl 1 (i + j) [_, ⟨some g2, 136, _, _, true⟩, _] (NV .u32 (row ((digs B32 m).length + 1) (msT (m * 2 ^ s) W (dvD (n * 2 ^ s) W (digs B32 n).length G) j (i + 1)))) ti136 rfl rfl rfl rfl rfl rfl rfl rfl (by rw [NV_length, row_length]; omega) (by rw [NV_set, row_set (fun k _ => msT_step _ _ _ j i k)]) rfl ?_
         refine run_nil (at_bn (at_tn (at_region ?_)))
         refine r_arith (r := ((i + 1 : Nat) : Int)) rfl rfl rfl rfl (congrArg some (wi (by omega) (by omega) (by omega))) ?_
         refine r_move rfl rfl rfl (run_nil (at_tn ?_))
         exact nextL ⟨i + 1, hlt⟩ (by simp only []; omega) ⟨rfl, rfl, rfl, rfl, rfl, rfl, rfl, (look_val rfl (by rw [hd2]; rfl)), rfl, rfl, rfl, trivial⟩ (Weak.refl _)
       ·
        have hge : i = (digs B32 n).length := (by have := of_decide_eq_false hb9; omega)
        have hb1 := subB_le (W + B32 ^ ((digs B32 n).length + 1)) (G * (n * 2 ^ s)) i
        have hw1 := B32_mod (W / B32 ^ i)
        have hp1 := B32_mod (G * (n * 2 ^ s) / B32 ^ i)
        have hy1 := B32_mod ((n * 2 ^ s) / B32 ^ i)
        have hD1 := B32_mod ((dvD (n * 2 ^ s) W (digs B32 n).length G) / B32 ^ i)
        have hgs := gS_lt (n * 2 ^ s) G i hG4
        have hgc := gC_le (n * 2 ^ s) G i hG4
        refine at_exit (at_te (at_te (at_be (at_tn (at_seq (at_region (r_move rfl rfl rfl (r_move rfl rfl rfl (r_move rfl rfl rfl ?_)))))))))
        refine r_arith (r := ((i + j : Nat) : Int)) rfl rfl rfl rfl (congrArg some (wi (by omega) (by omega) (by omega))) ?_
        refine r_indexAddr 1 (i + j) u161 ti136 rfl rfl rfl rfl rfl (by omega) (by omega) (NV_ne (by rw [row_length]; omega)) (by show 0 + Int.toNat _ * 1 = _; omega) ?_
        refine r_load1 1 (i + j) ti136 rfl rfl rfl rfl (NV_get ((row_get (by omega)).trans (congrArg some (msT_at _ _ _ j i)))) ?_
        refine r_conv (r := ((W / B32 ^ i % B32 : Nat) : Int)) u136 u2 rfl rfl rfl (wi (by omega) (by omega) (by omega)) ?_
        refine r_move rfl rfl rfl ?_
        refine r_arith (r := (((W / B32 ^ i % B32 : Nat) : Int) - ((subB (W + B32 ^ ((digs B32 n).length + 1)) (G * (n * 2 ^ s)) (i) : Nat) : Int))) rfl rfl rfl rfl (congrArg some (wi (by omega) (by omega) (by omega))) ?_
        refine r_move rfl rfl rfl ?_
        refine r_conv (r := ((G * (n * 2 ^ s) / B32 ^ i % B32 : Nat) : Int)) u116 u2 rfl rfl rfl (by rw [hge, gC_last hd.hi hG4]; rw [hge] at hp1; exact wi (by omega) (by omega) rfl) ?_
        refine r_arith (r := (((W / B32 ^ i % B32 : Nat) : Int) - ((subB (W + B32 ^ ((digs B32 n).length + 1)) (G * (n * 2 ^ s)) (i) : Nat) : Int) - ((G * (n * 2 ^ s) / B32 ^ i % B32 : Nat) : Int))) rfl rfl rfl rfl (congrArg some (wi (by omega) (by omega) (by omega))) ?_
        refine r_assign rfl rfl rfl (run_nil (at_tn (at_seq (at_region (r_move rfl rfl rfl (r_move rfl rfl rfl (r_move rfl rfl rfl ?_)))))))
        refine r_arith (r := ((i + j : Nat) : Int)) rfl rfl rfl rfl (congrArg some (wi (by omega) (by omega) (by omega))) ?_
        refine r_move rfl rfl rfl ?_
        refine r_conv (r := (((dvD (n * 2 ^ s) W (digs B32 n).length G) / B32 ^ i % B32 : Nat) : Int)) u2 u136 rfl rfl rfl (ms_u32 hd hG3 (by omega)) ?_
        refine r_indexAddr 1 (i + j) u161 ti136 rfl rfl rfl rfl rfl (by omega) (by omega) (NV_ne (by rw [row_length]; omega)) (by show 0 + Int.toNat _ * 1 = _; omega) ?_
        refine r_store1 rfl 1 (i + j) [_, ⟨some g2, 136, _, _, true⟩, _] (NV .u32 (row ((digs B32 m).length + 1) (msT (m * 2 ^ s) W (dvD (n * 2 ^ s) W (digs B32 n).length G) j ((digs B32 n).length + 1)))) ti136 rfl rfl rfl rfl rfl rfl rfl rfl (by rw [NV_length, row_length]; omega) (by rw [hge, NV_set, row_set (fun k _ => msT_step _ _ _ j _ k)]) rfl ?_
        refine run_nil (at_tn (at_seq (at_seq (at_region (r_move rfl rfl rfl (r_cmpInt rfl rfl rfl rfl rfl (run_nil (at_tn ?_))))))))
        refine at_cond rfl (fun hb10 => ?_) (fun hb10 => ?_)
        ·
         obtain ⟨hd1, hd2⟩ := ms_neg (i := i) hd hG3 (by omega) (by have := of_decide_eq_true hb10; omega)
         rw [hge] at hd2
         have hG5 := dv_neg hd hG3 hG2 hd2
         have hG6 : G - 1 = (m * 2 ^ s) / (n * 2 ^ s) / B32 ^ j % B32 := by omega
         have hG0 : 0 < G := by omega
         subst hge
         refine at_seq (at_region (r_move rfl rfl rfl ?_))
         refine r_arith (r := ((G - 1 : Nat) : Int)) rfl rfl rfl rfl (congrArg some (c64 _ (by omega) (by omega))) ?_
         refine r_assign rfl rfl rfl (run_nil (at_tn (at_seq (at_region (r_assign rfl rfl rfl (run_nil (at_tn (at_seq (at_seq (at_region (r_move rfl rfl rfl (r_move rfl rfl rfl (run_nil (at_tn (at_block ?_)))))))))))))))
         refine enterL (nt := 304) (ι := {i : Nat // i ≤ (digs B32 n).length}) (fun ⟨i, hi⟩ => [(9, slv (some g3) 0 (digs B32 n).length ((digs B32 n).length + 1)), (12, .int .i64 (s : Nat)), (13, slv (some g2) 0 ((digs B32 m).length + 1) ((digs B32 m).length + 1)), (14, .int .i64 ((digs B32 n).length : Nat)), (15, slv (some g4) 0 ((digs B32 m).length + 1 - (digs B32 n).length) ((digs B32 m).length + 1 - (digs B32 n).length)), (16, .int .i64 (j : Nat)), (18, .int .u64 (G - 1 : Nat)), (25, .int .u64 (addC (dvD (n * 2 ^ s) W (digs B32 n).length G) (n * 2 ^ s) i : Nat)), (230, .int .i64 ((digs B32 n).length : Nat)), (231, .int .i64 (i : Nat))]) (fun ⟨i, hi⟩ => [⟨some g3, 136, NV .u32 (row ((digs B32 n).length + 1) (shR (n * 2 ^ s))), (digs B32 n).length + 1, true⟩, ⟨some g2, 136, NV .u32 (row ((digs B32 m).length + 1) (abT (m * 2 ^ s) (n * 2 ^ s) W (dvD (n * 2 ^ s) W (digs B32 n).length G) (digs B32 n).length j i)), (digs B32 m).length + 1, true⟩, ⟨some g4, 136, NV .u32 (row ((digs B32 m).length + 1 - (digs B32 n).length) (outT (m * 2 ^ s) (n * 2 ^ s) (j + 1))), ((digs B32 m).length + 1 - (digs B32 n).length), true⟩]) (fun ⟨i, hi⟩ => (digs B32 n).length - i) ⟨0, Nat.zero_le _⟩ ⟨rfl, rfl, rfl, rfl, rfl, rfl, rfl, (look_val rfl (by rw [addC_zero]; rfl)), rfl, rfl, trivial⟩ (weak_eq (congrArg (fun c => [⟨some g3, 136, NV .u32 (row ((digs B32 n).length + 1) (shR (n * 2 ^ s))), (digs B32 n).length + 1, true⟩, (⟨some g2, 136, NV .u32 c, (digs B32 m).length + 1, true⟩ : Blk), ⟨some g4, 136, NV .u32 (row ((digs B32 m).length + 1 - (digs B32 n).length) (outT (m * 2 ^ s) (n * 2 ^ s) (j + 1))), ((digs B32 m).length + 1 - (digs B32 n).length), true⟩]) (row_congr fun k _ => abT_zero (m * 2 ^ s) (n * 2 ^ s) W (dvD (n * 2 ^ s) W (digs B32 n).length G) (digs B32 n).length j k))) ?_
         rintro ⟨i, hi⟩
         show At _ ⟨304, [(9, slv (some g3) 0 (digs B32 n).length ((digs B32 n).length + 1)), (12, .int .i64 (s : Nat)), (13, slv (some g2) 0 ((digs B32 m).length + 1) ((digs B32 m).length + 1)), (14, .int .i64 ((digs B32 n).length : Nat)), (15, slv (some g4) 0 ((digs B32 m).length + 1 - (digs B32 n).length) ((digs B32 m).length + 1 - (digs B32 n).length)), (16, .int .i64 (j : Nat)), (18, .int .u64 (G - 1 : Nat)), (25, .int .u64 (addC (dvD (n * 2 ^ s) W (digs B32 n).length G) (n * 2 ^ s) i : Nat)), (230, .int .i64 ((digs B32 n).length : Nat)), (231, .int .i64 (i : Nat))], [⟨some g3, 136, NV .u32 (row ((digs B32 n).length + 1) (shR (n * 2 ^ s))), (digs B32 n).length + 1, true⟩, ⟨some g2, 136, NV .u32 (row ((digs B32 m).length + 1) (abT (m * 2 ^ s) (n * 2 ^ s) W (dvD (n * 2 ^ s) W (digs B32 n).length G) (digs B32 n).length j i)), (digs B32 m).length + 1, true⟩, ⟨some g4, 136, NV .u32 (row ((digs B32 m).length + 1 - (digs B32 n).length) (outT (m * 2 ^ s) (n * 2 ^ s) (j + 1))), ((digs B32 m).length + 1 - (digs B32 n).length), true⟩]⟩ _
         refine at_seq (at_region (r_cmpInt rfl rfl rfl rfl rfl (run_nil (at_tn (at_seq ?_)))))
         refine at_cond rfl (fun hb12 => ?_) (fun hb12 => ?_)
         ·
          have hlt : i < (digs B32 n).length := (by have := of_decide_eq_true hb12; omega)
          have hD1 := B32_mod ((dvD (n * 2 ^ s) W (digs B32 n).length G) / B32 ^ i)
          have hy1 := B32_mod ((n * 2 ^ s) / B32 ^ i)
          have hac := addC_le (dvD (n * 2 ^ s) W (digs B32 n).length G) (n * 2 ^ s) i
          have has := addS_lt (dvD (n * 2 ^ s) W (digs B32 n).length G) (n * 2 ^ s) i
          refine at_skip (at_tn (at_seq (at_block (at_seq (at_region (r_move rfl rfl rfl (r_assign rfl rfl rfl (run_nil (at_tn (at_seq ?_))))))))))
          refine at_drawn (l' := [⟨_,_,_,_,_,_⟩, ⟨_,_,_,_,_,_⟩, ⟨_,_,_,_,_,_⟩, ⟨_,_,_,_,_,_⟩, ⟨_,_,_,_,_,_⟩, ⟨_,_,_,_,_,_⟩, ⟨_,_,_,_,_,_⟩, ⟨_,_,_,_,_,_⟩, ⟨_,_,_,_,_,_⟩, ⟨_,_,_,_,_,_⟩, ⟨_,_,_,_,_,_⟩, ⟨_,_,_,_,_,_⟩, ⟨_,_,_,_,_,_⟩, ⟨_,_,_,_,_,_⟩, ⟨_,_,_,_,_,_⟩, ⟨_,_,_,_,_,_⟩]) [] [0, 1, 2, 3, 4, 5, 6, 7, 8, 9, 10, 11, 12, 13, 14, 15] mixed (by kernel_rfl) rfl (by kernel_rfl) ?_
          refine r_move rfl rfl rfl (r_move rfl rfl rfl (r_move rfl rfl rfl (r_move rfl rfl rfl ?_)))
          refine r_arith (r := ((i + j : Nat) : Int)) rfl rfl rfl rfl (congrArg some (wi (by omega) (by omega) (by omega))) ?_
          refine r_indexAddr 1 (i + j) u161 ti136 rfl rfl rfl rfl rfl (by omega) (by omega) (NV_ne (by rw [row_length]; omega)) (by show 0 + Int.toNat _ * 1 = _; omega) ?_
          refine r_load1 1 (i + j) ti136 rfl rfl rfl rfl (NV_get ((row_get (by omega)).trans (congrArg some (abT_at _ _ _ _ _ j i (by omega))))) ?_
          refine r_conv (r := (((dvD (n * 2 ^ s) W (digs B32 n).length G) / B32 ^ i % B32 : Nat) : Int)) u136 u116 rfl rfl rfl (c64 _ rfl (by omega)) ?_
          refine r_move rfl rfl rfl (r_move rfl rfl rfl ?_)
          refine r_indexAddr 0 (i) u161 ti136 rfl rfl rfl rfl rfl (by omega) (by omega) (NV_ne (by rw [row_length]; omega)) (by show 0 + Int.toNat _ * 1 = _; omega) ?_
          refine r_load1 0 (i) ti136 rfl rfl rfl rfl (NV_get ((row_get (by omega)).trans (congrArg some (show shR (n * 2 ^ s) i = (n * 2 ^ s) / B32 ^ i % B32 from rfl)))) ?_
          refine r_conv (r := (((n * 2 ^ s) / B32 ^ i % B32 : Nat) : Int)) u136 u116 rfl rfl rfl (c64 _ rfl (by omega)) ?_
          refine r_arith (r := (((dvD (n * 2 ^ s) W (digs B32 n).length G) / B32 ^ i % B32 + (n * 2 ^ s) / B32 ^ i % B32 : Nat) : Int)) rfl rfl rfl rfl (congrArg some (c64 _ rfl (by omega))) ?_
          refine r_arith (r := ((addS (dvD (n * 2 ^ s) W (digs B32 n).length G) (n * 2 ^ s) i : Nat) : Int)) rfl rfl rfl rfl (congrArg some (c64 _ (addS_cast _ _ _) (by omega))) ?_
          refine r_assign rfl rfl rfl (run_nil (at_tn (at_region (r_move rfl rfl rfl (r_move rfl rfl rfl (r_move rfl rfl rfl ?_))))))
          refine r_arith (r := ((i + j : Nat) : Int)) rfl rfl rfl rfl (congrArg some (wi (by omega) (by omega) (by omega))) ?_
          refine r_move rfl rfl rfl ?_
          refine r_conv (r := ((addS (dvD (n * 2 ^ s) W (digs B32 n).length G) (n * 2 ^ s) i % 4294967296 : Nat) : Int)) u116 u136 rfl rfl rfl (c32 _ rfl) ?_
          refine r_move rfl rfl rfl ?_
          refine r_shift (r := ((addC (dvD (n * 2 ^ s) W (digs B32 n).length G) (n * 2 ^ s) (i + 1) : Nat) : Int)) rfl rfl rfl rfl (by omega) (congrArg some ((shr_u _ 32 rfl rfl (by omega)).trans (by rw [addS_carry]))) ?_
          refine r_indexAddr 1 (i + j) u161 ti136 rfl rfl rfl rfl rfl (by omega) (by omega) (NV_ne (by rw [row_length]; omega)) (by show 0 + Int.toNat _ * 1 = _; omega) ?_
          refine r_store1 rfl 1 (i + j) [_, ⟨some g2, 136, _, _, true⟩, _] (NV .u32 (row ((digs B32 m).length + 1) (abT (m * 2 ^ s) (n * 2 ^ s) W (dvD (n * 2 ^ s) W (digs B32 n).length G) (digs B32 n).length j (i + 1)))) ti136 rfl rfl rfl rfl rfl rfl rfl rfl (by rw [NV_length, row_length]; omega) (by rw [NV_set, row_set (fun k _ => abT_step _ _ _ _ _ j i k)]) rfl ?_
          refine r_assign rfl rfl rfl (run_nil (at_bn (at_tn (at_region ?_))))
          refine r_arith (r := ((i + 1 : Nat) : Int)) rfl rfl rfl rfl (congrArg some (wi (by omega) (by omega) (by omega))) ?_
          refine r_move rfl rfl rfl (run_nil (at_tn ?_))
          exact nextL ⟨i + 1, hlt⟩ (by simp only []; omega) ⟨rfl, rfl, rfl, rfl, rfl, rfl, rfl, rfl, rfl, rfl, trivial⟩ (Weak.refl _)
         ·
          have hge2 : i = (digs B32 n).length := (by have := of_decide_eq_false hb12; omega)
          subst hge2
          have hD1 := B32_mod ((dvD (n * 2 ^ s) W (digs B32 n).length G) / B32 ^ (digs B32 n).length)
          have hac := addC_le (dvD (n * 2 ^ s) W (digs B32 n).length G) (n * 2 ^ s) (digs B32 n).length
          refine at_exit (at_te (at_te (at_be (at_tn (at_region (r_move rfl rfl rfl (r_move rfl rfl rfl (r_move rfl rfl rfl ?_))))))))
          refine r_arith (r := (((digs B32 n).length + j : Nat) : Int)) rfl rfl rfl rfl (congrArg some (wi (by omega) (by omega) (by omega))) ?_
          refine r_indexAddr 1 ((digs B32 n).length + j) u161 ti136 rfl rfl rfl rfl rfl (by omega) (by omega) (NV_ne (by rw [row_length]; omega)) (by show 0 + Int.toNat _ * 1 = _; omega) ?_
          refine r_load1 1 ((digs B32 n).length + j) ti136 rfl rfl rfl rfl (NV_get ((row_get (by omega)).trans (congrArg some (abT_at _ _ _ _ _ j (digs B32 n).length (by omega))))) ?_
          refine r_move rfl rfl rfl ?_
          refine r_conv (r := ((addC (dvD (n * 2 ^ s) W (digs B32 n).length G) (n * 2 ^ s) (digs B32 n).length % 4294967296 : Nat) : Int)) u116 u136 rfl rfl rfl (c32 _ rfl) ?_
          refine r_arith (r := ((addS (dvD (n * 2 ^ s) W (digs B32 n).length G) (n * 2 ^ s) (digs B32 n).length % 4294967296 : Nat) : Int)) rfl rfl rfl rfl (congrArg some ((c32 _ rfl).trans (by rw [ab_low _ _ _ hd.hi]))) ?_
          refine r_indexAddr 1 ((digs B32 n).length + j) u161 ti136 rfl rfl rfl rfl rfl (by omega) (by omega) (NV_ne (by rw [row_length]; omega)) (by show 0 + Int.toNat _ * 1 = _; omega) ?_
          refine r_store1 rfl 1 ((digs B32 n).length + j) [_, ⟨some g2, 136, _, _, true⟩, _] (NV .u32 (row ((digs B32 m).length + 1) (abT (m * 2 ^ s) (n * 2 ^ s) W (dvD (n * 2 ^ s) W (digs B32 n).length G) (digs B32 n).length j ((digs B32 n).length + 1)))) ti136 rfl rfl rfl rfl rfl rfl rfl rfl (by rw [NV_length, row_length]; omega) (by rw [NV_set, row_set (fun k _ => abT_step _ _ _ _ _ j _ k)]) rfl ?_
          refine run_nil (at_tn (at_region (r_move rfl rfl rfl (r_move rfl rfl rfl (r_move rfl rfl rfl ?_)))))
          refine r_conv (r := (((m * 2 ^ s) / (n * 2 ^ s) / B32 ^ j % B32 : Nat) : Int)) u116 u136 rfl rfl rfl ((c32 _ rfl).trans (by rw [hG6]; show ((_ % B32 % B32 : Nat) : Int) = _; rw [Nat.mod_mod])) ?_
          refine r_indexAddr 2 (j) u161 ti136 rfl rfl rfl rfl rfl (by omega) (by omega) (NV_ne (by rw [row_length]; omega)) (by show 0 + Int.toNat _ * 1 = _; omega) ?_
          refine r_store1 rfl 2 (j) [_, _, ⟨some g4, 136, _, _, true⟩] (NV .u32 (row ((digs B32 m).length + 1 - (digs B32 n).length) (outT (m * 2 ^ s) (n * 2 ^ s) j))) ti136 rfl rfl rfl rfl rfl rfl rfl rfl (by rw [NV_length, row_length]; omega) (by rw [NV_set, row_set (fun k _ => outT_step _ _ j k)]) rfl ?_
          refine run_nil (at_bn (at_tn (at_region (r_move rfl rfl rfl ?_))))
          refine r_arith (r := ((j : Nat) : Int) - 1) rfl rfl rfl rfl (congrArg some (wi (by omega) (by omega) (by omega))) ?_
          refine r_assign rfl rfl rfl (run_nil (at_tn ?_))
          exact nextL ⟨j, by omega⟩ (by simp only []; omega) ⟨rfl, rfl, rfl, rfl, rfl, rfl, trivial⟩ (weak_eq (congrArg (fun c => [⟨some g3, 136, NV .u32 (row ((digs B32 n).length + 1) (shR (n * 2 ^ s))), (digs B32 n).length + 1, true⟩, (⟨some g2, 136, NV .u32 c, (digs B32 m).length + 1, true⟩ : Blk), ⟨some g4, 136, NV .u32 (row ((digs B32 m).length + 1 - (digs B32 n).length) (outT (m * 2 ^ s) (n * 2 ^ s) (j))), ((digs B32 m).length + 1 - (digs B32 n).length), true⟩]) (row_congr fun k _ => (ab_end hd hG5).trans (by rw [hr]))))
        ·
         obtain ⟨hd1, hd2⟩ := ms_pos (i := i) hd hG3 (by omega) (by have := of_decide_eq_false hb10; omega)
         rw [hge] at hd2
         have hG5 := dv_pos hd hG3 hG2 hG4 hd2
         have hG6 : G = (m * 2 ^ s) / (n * 2 ^ s) / B32 ^ j % B32 := by omega
         subst hge
         refine at_skip (at_tn (at_region (r_move rfl rfl rfl (r_move rfl rfl rfl (r_move rfl rfl rfl ?_)))))
         refine r_conv (r := (((m * 2 ^ s) / (n * 2 ^ s) / B32 ^ j % B32 : Nat) : Int)) u116 u136 rfl rfl rfl ((c32 _ rfl).trans (by rw [hG6]; show ((_ % B32 % B32 : Nat) : Int) = _; rw [Nat.mod_mod])) ?_
         refine r_indexAddr 2 (j) u161 ti136 rfl rfl rfl rfl rfl (by omega) (by omega) (NV_ne (by rw [row_length]; omega)) (by show 0 + Int.toNat _ * 1 = _; omega) ?_
         refine r_store1 rfl 2 (j) [_, _, ⟨some g4, 136, _, _, true⟩] (NV .u32 (row ((digs B32 m).length + 1 - (digs B32 n).length) (outT (m * 2 ^ s) (n * 2 ^ s) j))) ti136 rfl rfl rfl rfl rfl rfl rfl rfl (by rw [NV_length, row_length]; omega) (by rw [NV_set, row_set (fun k _ => outT_step _ _ j k)]) rfl ?_
         refine run_nil (at_bn (at_tn (at_region (r_move rfl rfl rfl ?_))))
         refine r_arith (r := ((j : Nat) : Int) - 1) rfl rfl rfl rfl (congrArg some (wi (by omega) (by omega) (by omega))) ?_
         refine r_assign rfl rfl rfl (run_nil (at_tn ?_))
         exact nextL ⟨j, by omega⟩ (by simp only []; omega) ⟨rfl, rfl, rfl, rfl, rfl, rfl, trivial⟩ (weak_eq (congrArg (fun c => [⟨some g3, 136, NV .u32 (row ((digs B32 n).length + 1) (shR (n * 2 ^ s))), (digs B32 n).length + 1, true⟩, (⟨some g2, 136, NV .u32 c, (digs B32 m).length + 1, true⟩ : Blk), ⟨some g4, 136, NV .u32 (row ((digs B32 m).length + 1 - (digs B32 n).length) (outT (m * 2 ^ s) (n * 2 ^ s) (j))), ((digs B32 m).length + 1 - (digs B32 n).length), true⟩]) (row_congr fun k _ => (ms_end hd hG5).trans (by rw [hr]))))
    ·
     have hp0 : p = 0 := by have := of_decide_eq_false hb4; omega
     subst hp0
     refine at_exit (at_te (at_te (at_be (at_tn (at_seq (at_region (r_move rfl rfl rfl ?_)))))))
     refine q_makeSlice (c := (digs B32 n).length) (NV .u32 (row (digs B32 n).length (restT (m % n) 0))) (fun g => [_, _, _, ⟨some g, 136, _, _, true⟩]) u161 el136 rfl rfl rfl rfl rfl rfl (by omega) (by rw [row_congr (g := fun _ => 0) (fun k hk => restT_zero _ k), row_zero, NV_replicate]) (fun _ => rfl) (fun g5 => ?_)
     refine r_assign rfl rfl rfl (run_nil (at_tn (at_seq (at_seq (at_region (r_move rfl rfl rfl (r_move rfl rfl rfl (run_nil (at_tn (at_block ?_))))))))))
     refine enterL (nt := 304) (ι := {i : Nat // i ≤ (digs B32 n).length}) (fun ⟨i, hi⟩ => [(12, .int .i64 (s : Nat)), (13, slv (some g2) 0 ((digs B32 m).length + 1) ((digs B32 m).length + 1)), (15, slv (some g4) 0 ((digs B32 m).length + 1 - (digs B32 n).length) ((digs B32 m).length + 1 - (digs B32 n).length)), (27, slv (some g5) 0 (digs B32 n).length (digs B32 n).length), (276, .int .i64 ((digs B32 n).length : Nat)), (277, .int .i64 (i : Nat))]) (fun ⟨i, hi⟩ => [⟨some g3, 136, NV .u32 (row ((digs B32 n).length + 1) (shR (n * 2 ^ s))), (digs B32 n).length + 1, true⟩, ⟨some g2, 136, NV .u32 (row ((digs B32 m).length + 1) (xw (m * 2 ^ s) 0 ((m * 2 ^ s) / B32 ^ 0 % (n * 2 ^ s)))), (digs B32 m).length + 1, true⟩, ⟨some g4, 136, NV .u32 (row ((digs B32 m).length + 1 - (digs B32 n).length) (outT (m * 2 ^ s) (n * 2 ^ s) (0))), ((digs B32 m).length + 1 - (digs B32 n).length), true⟩, ⟨some g5, 136, NV .u32 (row (digs B32 n).length (restT (m % n) i)), (digs B32 n).length, true⟩]) (fun ⟨i, hi⟩ => (digs B32 n).length - i) ⟨0, Nat.zero_le _⟩ ⟨rfl, rfl, rfl, rfl, rfl, rfl, trivial⟩ (Weak.refl _) ?_
     rintro ⟨i, hi⟩
     show At _ ⟨304, [(12, .int .i64 (s : Nat)), (13, slv (some g2) 0 ((digs B32 m).length + 1) ((digs B32 m).length + 1)), (15, slv (some g4) 0 ((digs B32 m).length + 1 - (digs B32 n).length) ((digs B32 m).length + 1 - (digs B32 n).length)), (27, slv (some g5) 0 (digs B32 n).length (digs B32 n).length), (276, .int .i64 ((digs B32 n).length : Nat)), (277, .int .i64 (i : Nat))], [⟨some g3, 136, NV .u32 (row ((digs B32 n).length + 1) (shR (n * 2 ^ s))), (digs B32 n).length + 1, true⟩, ⟨some g2, 136, NV .u32 (row ((digs B32 m).length + 1) (xw (m * 2 ^ s) 0 ((m * 2 ^ s) / B32 ^ 0 % (n * 2 ^ s)))), (digs B32 m).length + 1, true⟩, ⟨some g4, 136, NV .u32 (row ((digs B32 m).length + 1 - (digs B32 n).length) (outT (m * 2 ^ s) (n * 2 ^ s) (0))), ((digs B32 m).length + 1 - (digs B32 n).length), true⟩, ⟨some g5, 136, NV .u32 (row (digs B32 n).length (restT (m % n) i)), (digs B32 n).length, true⟩]⟩ _
     refine at_seq (at_region (r_cmpInt rfl rfl rfl rfl rfl (run_nil (at_tn (at_seq ?_)))))
     refine at_cond rfl (fun hb6 => ?_) (fun hb6 => ?_)
     ·
      have hlt : i < (digs B32 n).length := (by have := of_decide_eq_true hb6; omega)
      have hv0 := B32_mod (m % n * 2 ^ s / B32 ^ i)
      have hv1 := B32_mod (m % n * 2 ^ s / B32 ^ (i + 1))
      refine at_skip (at_tn (at_seq (at_block (at_seq (at_region (r_move rfl rfl rfl (r_assign rfl rfl rfl (run_nil (at_tn ?_)))))))))
      refine at_drawn (l' := [⟨_,_,_,_,_,_⟩, ⟨_,_,_,_,_,_⟩, ⟨_,_,_,_,_,_⟩, ⟨_,_,_,_,_,_⟩, ⟨_,_,_,_,_,_⟩, ⟨_,_,_,_,_,_⟩, ⟨_,_,_,_,_,_⟩, ⟨_,_,_,_,_,_⟩, ⟨_,_,_,_,_,_⟩, ⟨_,_,_,_,_,_⟩, ⟨_,_,_,_,_,_⟩, ⟨_,_,_,_,_,_⟩, ⟨_,_,_,_,_,_⟩, ⟨_,_,_,_,_,_⟩, ⟨_,_,_,_,_,_⟩, ⟨_,_,_,_,_,_⟩, ⟨_,_,_,_,_,_⟩, ⟨_,_,_,_,_,_⟩, ⟨_,_,_,_,_,_⟩, ⟨_,_,_,_,_,_⟩]) [] [0, 1, 2, 3, 4, 5, 6, 7, 8, 9, 10, 11, 12, 13, 14, 15, 16, 17, 18, 19] mixed (by kernel_rfl) rfl (by kernel_rfl) ?_
      refine r_move rfl rfl rfl (r_move rfl rfl rfl (r_move rfl rfl rfl (r_move rfl rfl rfl ?_)))
      refine r_arith (r := ((i + 1 : Nat) : Int)) rfl rfl rfl rfl (congrArg some (wi (by omega) (by omega) (by omega))) ?_
      refine r_indexAddr 1 (i + 1) u161 ti136 rfl rfl rfl rfl rfl (by omega) (by omega) (NV_ne (by rw [row_length]; omega)) (by show 0 + Int.toNat _ * 1 = _; omega) ?_
      refine r_load1 1 (i + 1) ti136 rfl rfl rfl rfl (NV_get ((row_get (by omega)).trans (congrArg some (x0_load m n s (i + 1))))) ?_
      refine r_conv (r := ((m % n * 2 ^ s / B32 ^ (i + 1) % B32 : Nat) : Int)) u136 u116 rfl rfl rfl (c64 _ rfl (by omega)) ?_
      refine r_shift (r := ((m % n * 2 ^ s / B32 ^ (i + 1) % B32 * 2 ^ 32 : Nat) : Int)) rfl rfl rfl rfl (by omega) (congrArg some (shl_u _ 32 rfl rfl (by omega) (by omega))) ?_
      refine r_move rfl rfl rfl (r_move rfl rfl rfl ?_)
      refine r_indexAddr 1 (i) u161 ti136 rfl rfl rfl rfl rfl (by omega) (by omega) (NV_ne (by rw [row_length]; omega)) (by show 0 + Int.toNat _ * 1 = _; omega) ?_
      refine r_load1 1 (i) ti136 rfl rfl rfl rfl (NV_get ((row_get (by omega)).trans (congrArg some (x0_load m n s i)))) ?_
      refine r_conv (r := ((m % n * 2 ^ s / B32 ^ i % B32 : Nat) : Int)) u136 u116 rfl rfl rfl (c64 _ rfl (by omega)) ?_
      refine r_or (r := ((m % n * 2 ^ s / B32 ^ i % (B32 * B32) : Nat) : Int)) rfl rfl rfl rfl (or_u64 32 (B32_mod _) (back_or _ _) (back_lt _ _) (by rw [Nat.mul_comm]) rfl) ?_
      refine r_move rfl rfl rfl ?_
      refine r_shift (r := ((m % n * 2 ^ s / B32 ^ i % (B32 * B32) / 2 ^ s : Nat) : Int)) rfl rfl rfl rfl (by omega) (congrArg some (shr_u _ _ rfl rfl (by omega))) ?_
      refine r_conv (r := ((m % n / B32 ^ i % B32 : Nat) : Int)) u116 u136 rfl rfl rfl ((c32 _ rfl).trans (by rw [back_shr hs])) ?_
      refine r_indexAddr 3 (i) u161 ti136 rfl rfl rfl rfl rfl (by omega) (by omega) (NV_ne (by rw [row_length]; omega)) (by show 0 + Int.toNat _ * 1 = _; omega) ?_
      refine r_store1 rfl 3 (i) [_, _, _, ⟨some g5, 136, _, _, true⟩] (NV .u32 (row (digs B32 n).length (restT (m % n) (i + 1)))) ti136 rfl rfl rfl rfl rfl rfl rfl rfl (by rw [NV_length, row_length]; omega) (by rw [NV_set, row_set (fun k _ => restT_step _ i k)]) rfl ?_
      refine run_nil (at_bn (at_tn (at_region ?_)))
      refine r_arith (r := ((i + 1 : Nat) : Int)) rfl rfl rfl rfl (congrArg some (wi (by omega) (by omega) (by omega))) ?_
      refine r_move rfl rfl rfl (run_nil (at_tn ?_))
      exact nextL ⟨i + 1, hlt⟩ (by simp only []; omega) ⟨rfl, rfl, rfl, rfl, rfl, rfl, trivial⟩ (Weak.refl _)
     ·
      have hge : i = (digs B32 n).length := (by have := of_decide_eq_false hb6; omega)
      subst hge
      refine at_exit (at_te (at_te (at_be (at_tn (at_seq (at_region (r_move rfl rfl rfl ?_)))))))
      refine r_scall0 [_] [2] rfl rfl rfl (c_nat_bytes (row ((digs B32 m).length + 1 - (digs B32 n).length) (outT (m * 2 ^ s) (n * 2 ^ s) 0)) (row_lt fun j => outT_lt _ _ _ j) (by rw [row_length]; omega) (row_length _ _) ⟨some g4, _, _, Nat.le_refl _⟩) ⟨⟨_, rfl, le_share⟩, trivial⟩ rfl ?_
      refine r_move rfl rfl rfl ?_
      refine r_scall0 [_] [3] rfl rfl rfl (c_nat_bytes (row (digs B32 n).length (restT (m % n) (digs B32 n).length)) (row_lt fun j => restT_lt _ _ j) (by rw [row_length]; omega) (row_length _ _) ⟨some g5, _, _, Nat.le_refl _⟩) ⟨⟨_, rfl, le_share⟩, trivial⟩ rfl ?_
      refine r_assign rfl rfl rfl (r_assign rfl rfl rfl (run_nil (at_tn (at_ret ?_))))
      refine at_end2 rfl (res_tmp rfl) (res_tmp rfl) (fun w hL => ⟨?_, hL.below⟩)
      rw [out_val h0 hXM, rest_val h0]
end Go.Proofs.YtncogghlhlnmaaaGreatDoor
