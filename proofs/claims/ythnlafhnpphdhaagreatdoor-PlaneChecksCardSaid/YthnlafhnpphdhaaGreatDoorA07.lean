/-
  Part 7: lemmas, and walks through the functions that the laws of chapter 07 call. Each theorem states its own conditions.
-/
import Derived.Test.YthnlafhnpphdhaaGreatDoorA02
import Derived.Test.YthnlafhnpphdhaaGreatDoorA05
import Derived.Test.YthnlafhnpphdhaaGreatDoorA06
set_option linter.unusedVariables false
set_option linter.unusedVariables false
namespace Go.Proofs.YthnlafhnpphdhaaGreatDoor
open Go Go.RowKit Go.Via
set_option maxRecDepth 20000 in
theorem c_integer_Gcd (a b : Int) (ha : szI a ≤ 67108864) (hb : szI b ≤ 67108864) : PCall Tryz.prog 113 #[I a, I b] (I (Int.gcd a b)) := by
  refine ⟨by kernel_rfl, fun w => ?_⟩
  refine calls_at (args := [I a, I b]) Tryz.func113 rfl (Nat.le_of_ble_eq_true rfl) (LRel.nil w) ?_
  show At w ⟨45, [(0, I a), (1, I b)], []⟩ _
  refine at_seq ?_
  refine at_region ?_
  refine r_box [_, _] 2 (fun g => [⟨some g, 23, _, 2, true⟩]) rfl rfl rfl rfl rfl (fun _ => rfl) (fun g0 => ?_)
  refine r_box [_, _] 2 (fun g => [_, ⟨some g, 23, _, 2, true⟩]) rfl rfl rfl rfl rfl (fun _ => rfl) (fun g1 => ?_)
  refine r_alloc [_, _] 2 (fun g => [_, _, ⟨some g, 23, _, 2, true⟩]) rfl rfl z23 rfl rfl (fun _ => rfl) (fun g2 => ?_)
  refine run_nil ?_
  refine at_tn ?_
  refine at_seq ?_
  refine at_drawn (l' := [⟨_,_,_,_,_,_⟩, ⟨_,_,_,_,_,_⟩, ⟨_,_,_,_,_,_⟩, ⟨_,_,_,_,_,_⟩, ⟨_,_,_,_,_,_⟩, ⟨_,_,_,_,_,_⟩]) [2000000] [0, 1, 2, 3, 4, 5] mixed (by kernel_rfl) rfl (by kernel_rfl) ?_
  refine r_fieldAddr 0 0 1 rfl rfl rfl rfl rfl ti23 rfl rfl ?_
  refine r_load 0 1 [_] rfl rfl rfl rfl ti9 rfl rfl rfl rfl ?_
  refine r_fieldAddr 1 0 1 rfl rfl rfl rfl rfl ti23 rfl rfl ?_
  refine r_load 1 1 [_] rfl rfl rfl rfl ti9 rfl rfl rfl rfl ?_
  refine r_assign rfl rfl rfl ?_
  refine r_assign rfl rfl rfl ?_
  refine run_nil ?_
  refine at_tn ?_
  refine at_seq ?_
  refine at_block ?_
  refine enterL (nt := 45) (ι := {x : Nat × Nat // Nat.gcd x.1 x.2 = Int.gcd a b ∧ nb x.1 ≤ 67108864 ∧ nb x.2 ≤ 67108864}) (fun ⟨⟨x, y⟩, hg, hx, hy⟩ => [(4, .pointer (some ⟨g2, 0, none⟩)), (5, .string (mag x)), (6, .string (mag y))]) (fun ⟨⟨x, y⟩, hg, hx, hy⟩ => [⟨some g0, 23, [.bool (decide (a < 0)), .string (mag a.natAbs)], 2, true⟩, ⟨some g1, 23, [.bool (decide (b < 0)), .string (mag b.natAbs)], 2, true⟩, ⟨some g2, 23, [.bool false, .string ⟨#[]⟩], 2, true⟩]) (fun ⟨⟨x, y⟩, hg, hx, hy⟩ => y) ⟨(a.natAbs, b.natAbs), rfl, ha, hb⟩ ⟨rfl, rfl, rfl, trivial⟩ (Weak.refl _) ?_
  rintro ⟨⟨x, y⟩, hg, hx, hy⟩
  show At _ ⟨45, [(4, .pointer (some ⟨g2, 0, none⟩)), (5, .string (mag x)), (6, .string (mag y))], [⟨some g0, 23, [.bool (decide (a < 0)), .string (mag a.natAbs)], 2, true⟩, ⟨some g1, 23, [.bool (decide (b < 0)), .string (mag b.natAbs)], 2, true⟩, ⟨some g2, 23, [.bool false, .string ⟨#[]⟩], 2, true⟩]⟩ _
  refine at_seq ?_
  refine at_seq ?_
  refine at_region ?_
  refine r_move rfl rfl rfl ?_
  refine r_neqStr rfl rfl rfl rfl ?_
  refine run_nil ?_
  refine at_tn ?_
  refine at_cond rfl (fun hb1 => ?_) (fun hb1 => ?_)
  ·
    have hy0 : y ≠ 0 := by rw [bne_empty] at hb1; simpa using hb1
    refine at_skip ?_
    refine at_tn ?_
    refine at_block ?_
    refine at_seq ?_
    refine at_seq ?_
    refine at_region ?_
    refine r_move rfl rfl rfl ?_
    refine r_move rfl rfl rfl ?_
    refine r_pcall [_, _] rfl rfl rfl (c_integer_words _ _) ?_
    refine r_move rfl rfl rfl ?_
    refine r_extract (vs := [_, _, _]) rfl rfl rfl rfl ?_
    refine r_extract (vs := [_, _, _]) rfl rfl rfl rfl ?_
    refine r_extract (vs := [_, _, _]) rfl rfl rfl rfl ?_
    refine r_assign rfl rfl rfl ?_
    refine r_assign rfl rfl rfl ?_
    refine r_assign rfl rfl rfl ?_
    refine run_nil ?_
    refine at_tn ?_
    refine at_seq ?_
    refine at_region ?_
    refine r_move rfl rfl rfl ?_
    refine run_nil ?_
    refine at_tn ?_
    refine at_cond rfl (fun hb2 => ?_) (fun hb2 => ?_)
    ·
      obtain ⟨hw1, hw2, hw3, hw4⟩ := words_T hb2
      refine at_know 7 (.int .u64 (x : Nat)) rfl (by rw [if_pos hw3]) ?_
      refine at_know 8 (.int .u64 (y : Nat)) rfl (by rw [if_pos hw4]) ?_
      refine at_seq ?_
      refine at_block ?_
      refine enterL (nt := 45) (ι := {x : Nat × Nat // Nat.gcd x.1 x.2 = Int.gcd a b ∧ x.1 < 18446744073709551616 ∧ x.2 < 18446744073709551616}) (fun ⟨⟨u, v⟩, hg2, hu, hv⟩ => [(4, .pointer (some ⟨g2, 0, none⟩)), (7, .int .u64 (u : Nat)), (8, .int .u64 (v : Nat))]) (fun ⟨⟨u, v⟩, hg2, hu, hv⟩ => [⟨some g0, 23, [.bool (decide (a < 0)), .string (mag a.natAbs)], 2, true⟩, ⟨some g1, 23, [.bool (decide (b < 0)), .string (mag b.natAbs)], 2, true⟩, ⟨some g2, 23, [.bool false, .string ⟨#[]⟩], 2, true⟩]) (fun ⟨⟨u, v⟩, hg2, hu, hv⟩ => v) ⟨(x, y), hg, hw1, hw2⟩ ⟨rfl, rfl, rfl, trivial⟩ (Weak.refl _) ?_
      rintro ⟨⟨u, v⟩, hg2, hu, hv⟩
      show At _ ⟨45, [(4, .pointer (some ⟨g2, 0, none⟩)), (7, .int .u64 (u : Nat)), (8, .int .u64 (v : Nat))], [⟨some g0, 23, [.bool (decide (a < 0)), .string (mag a.natAbs)], 2, true⟩, ⟨some g1, 23, [.bool (decide (b < 0)), .string (mag b.natAbs)], 2, true⟩, ⟨some g2, 23, [.bool false, .string ⟨#[]⟩], 2, true⟩]⟩ _
      refine at_seq ?_
      refine at_seq ?_
      refine at_region ?_
      refine r_move rfl rfl rfl ?_
      refine r_cmpInt rfl rfl rfl rfl rfl ?_
      refine run_nil ?_
      refine at_tn ?_
      refine at_cond rfl (fun hb4 => ?_) (fun hb4 => ?_)
      ·
        have hv0 : v ≠ 0 := by have := bne_iff_ne.1 hb4; omega
        refine at_skip ?_
        refine at_tn ?_
        refine at_block ?_
        refine at_tree [(4, .pointer (some ⟨g2, 0, none⟩)), (7, .int .u64 (v : Nat)), (8, .int .u64 (u % v : Nat))] [⟨some g0, 23, [.bool (decide (a < 0)), .string (mag a.natAbs)], 2, true⟩, ⟨some g1, 23, [.bool (decide (b < 0)), .string (mag b.natAbs)], 2, true⟩, ⟨some g2, 23, [.bool false, .string ⟨#[]⟩], 2, true⟩] mixed ?_ ?_
        ·
          refine t_node [0, 1, 2] (by kernel_rfl) rfl ⟨⟨_, rfl, ?_⟩, ⟨_, rfl, ?_⟩, ⟨_, rfl, ?_⟩, trivial⟩
          ·
            refine r_move rfl rfl rfl ?_
            refine run_nil ?_
            refine t_node [1, 2] (by kernel_rfl) rfl ⟨⟨_, rfl, ?_⟩, ⟨_, rfl, ?_⟩, trivial⟩
            ·
              refine r_move rfl rfl rfl ?_
              refine run_nil ?_
              refine t_node [2, 4] (by kernel_rfl) rfl ⟨⟨_, rfl, ?_⟩, ⟨_, rfl, ?_⟩, trivial⟩
              ·
                refine r_move rfl rfl rfl ?_
                refine run_nil ?_
                refine t_node [3, 4] (by kernel_rfl) rfl ⟨⟨_, rfl, ?_⟩, ⟨_, rfl, ?_⟩, trivial⟩
                ·
                  refine r_div (r := ((u % v : Nat) : Int)) rfl rfl rfl rfl (by omega) (congrArg some (rem_n _ _ rfl rfl)) ?_
                  refine run_nil ?_
                  refine t_node [4] (by kernel_rfl) rfl ⟨⟨_, rfl, ?_⟩, trivial⟩
                  ·
                    refine r_assign rfl rfl rfl ?_
                    refine run_nil ?_
                    refine t_node [5] (by kernel_rfl) rfl ⟨⟨_, rfl, ?_⟩, trivial⟩
                    ·
                      refine r_assign rfl rfl rfl ?_
                      refine run_nil ?_
                      exact ⟨by kernel_rfl, rfl, ⟨rfl, rfl, rfl, trivial⟩, rfl⟩
                ·
                  refine r_assign rfl rfl rfl ?_
                  refine run_nil ?_
                  refine t_node [3] (by kernel_rfl) rfl ⟨⟨_, rfl, ?_⟩, trivial⟩
                  ·
                    refine r_div (r := ((u % v : Nat) : Int)) rfl rfl rfl rfl (by omega) (congrArg some (rem_n _ _ rfl rfl)) ?_
                    refine run_nil ?_
                    refine t_node [5] (by kernel_rfl) rfl ⟨⟨_, rfl, ?_⟩, trivial⟩
                    ·
                      refine r_assign rfl rfl rfl ?_
                      refine run_nil ?_
                      exact ⟨by kernel_rfl, rfl, ⟨rfl, rfl, rfl, trivial⟩, rfl⟩
              ·
                refine r_assign rfl rfl rfl ?_
                refine run_nil ?_
                refine t_node [2] (by kernel_rfl) rfl ⟨⟨_, rfl, ?_⟩, trivial⟩
                ·
                  refine r_move rfl rfl rfl ?_
                  refine run_nil ?_
                  refine t_node [3] (by kernel_rfl) rfl ⟨⟨_, rfl, ?_⟩, trivial⟩
                  ·
                    refine r_div (r := ((u % v : Nat) : Int)) rfl rfl rfl rfl (by omega) (congrArg some (rem_n _ _ rfl rfl)) ?_
                    refine run_nil ?_
                    refine t_node [5] (by kernel_rfl) rfl ⟨⟨_, rfl, ?_⟩, trivial⟩
                    ·
                      refine r_assign rfl rfl rfl ?_
                      refine run_nil ?_
                      exact ⟨by kernel_rfl, rfl, ⟨rfl, rfl, rfl, trivial⟩, rfl⟩
            ·
              refine r_move rfl rfl rfl ?_
              refine run_nil ?_
              refine t_node [1] (by kernel_rfl) rfl ⟨⟨_, rfl, ?_⟩, trivial⟩
              ·
                refine r_move rfl rfl rfl ?_
                refine run_nil ?_
                refine t_node [3, 4] (by kernel_rfl) rfl ⟨⟨_, rfl, ?_⟩, ⟨_, rfl, ?_⟩, trivial⟩
                ·
                  refine r_div (r := ((u % v : Nat) : Int)) rfl rfl rfl rfl (by omega) (congrArg some (rem_n _ _ rfl rfl)) ?_
                  refine run_nil ?_
                  refine t_node [4] (by kernel_rfl) rfl ⟨⟨_, rfl, ?_⟩, trivial⟩
                  ·
                    refine r_assign rfl rfl rfl ?_
                    refine run_nil ?_
                    refine t_node [5] (by kernel_rfl) rfl ⟨⟨_, rfl, ?_⟩, trivial⟩
                    ·
                      refine r_assign rfl rfl rfl ?_
                      refine run_nil ?_
                      exact ⟨by kernel_rfl, rfl, ⟨rfl, rfl, rfl, trivial⟩, rfl⟩
                ·
                  refine r_assign rfl rfl rfl ?_
                  refine run_nil ?_
                  refine t_node [3] (by kernel_rfl) rfl ⟨⟨_, rfl, ?_⟩, trivial⟩
                  ·
                    refine r_div (r := ((u % v : Nat) : Int)) rfl rfl rfl rfl (by omega) (congrArg some (rem_n _ _ rfl rfl)) ?_
                    refine run_nil ?_
                    refine t_node [5] (by kernel_rfl) rfl ⟨⟨_, rfl, ?_⟩, trivial⟩
                    ·
                      refine r_assign rfl rfl rfl ?_
                      refine run_nil ?_
                      exact ⟨by kernel_rfl, rfl, ⟨rfl, rfl, rfl, trivial⟩, rfl⟩
          ·
            refine r_move rfl rfl rfl ?_
            refine run_nil ?_
            refine t_node [0, 2] (by kernel_rfl) rfl ⟨⟨_, rfl, ?_⟩, ⟨_, rfl, ?_⟩, trivial⟩
            ·
              refine r_move rfl rfl rfl ?_
              refine run_nil ?_
              refine t_node [2, 4] (by kernel_rfl) rfl ⟨⟨_, rfl, ?_⟩, ⟨_, rfl, ?_⟩, trivial⟩
              ·
                refine r_move rfl rfl rfl ?_
                refine run_nil ?_
                refine t_node [3, 4] (by kernel_rfl) rfl ⟨⟨_, rfl, ?_⟩, ⟨_, rfl, ?_⟩, trivial⟩
                ·
                  refine r_div (r := ((u % v : Nat) : Int)) rfl rfl rfl rfl (by omega) (congrArg some (rem_n _ _ rfl rfl)) ?_
                  refine run_nil ?_
                  refine t_node [4] (by kernel_rfl) rfl ⟨⟨_, rfl, ?_⟩, trivial⟩
                  ·
                    refine r_assign rfl rfl rfl ?_
                    refine run_nil ?_
                    refine t_node [5] (by kernel_rfl) rfl ⟨⟨_, rfl, ?_⟩, trivial⟩
                    ·
                      refine r_assign rfl rfl rfl ?_
                      refine run_nil ?_
                      exact ⟨by kernel_rfl, rfl, ⟨rfl, rfl, rfl, trivial⟩, rfl⟩
                ·
                  refine r_assign rfl rfl rfl ?_
                  refine run_nil ?_
                  refine t_node [3] (by kernel_rfl) rfl ⟨⟨_, rfl, ?_⟩, trivial⟩
                  ·
                    refine r_div (r := ((u % v : Nat) : Int)) rfl rfl rfl rfl (by omega) (congrArg some (rem_n _ _ rfl rfl)) ?_
                    refine run_nil ?_
                    refine t_node [5] (by kernel_rfl) rfl ⟨⟨_, rfl, ?_⟩, trivial⟩
                    ·
                      refine r_assign rfl rfl rfl ?_
                      refine run_nil ?_
                      exact ⟨by kernel_rfl, rfl, ⟨rfl, rfl, rfl, trivial⟩, rfl⟩
              ·
                refine r_assign rfl rfl rfl ?_
                refine run_nil ?_
                refine t_node [2] (by kernel_rfl) rfl ⟨⟨_, rfl, ?_⟩, trivial⟩
                ·
                  refine r_move rfl rfl rfl ?_
                  refine run_nil ?_
                  refine t_node [3] (by kernel_rfl) rfl ⟨⟨_, rfl, ?_⟩, trivial⟩
                  ·
                    refine r_div (r := ((u % v : Nat) : Int)) rfl rfl rfl rfl (by omega) (congrArg some (rem_n _ _ rfl rfl)) ?_
                    refine run_nil ?_
                    refine t_node [5] (by kernel_rfl) rfl ⟨⟨_, rfl, ?_⟩, trivial⟩
                    ·
                      refine r_assign rfl rfl rfl ?_
                      refine run_nil ?_
                      exact ⟨by kernel_rfl, rfl, ⟨rfl, rfl, rfl, trivial⟩, rfl⟩
            ·
              refine r_move rfl rfl rfl ?_
              refine run_nil ?_
              refine t_node [0, 3] (by kernel_rfl) rfl ⟨⟨_, rfl, ?_⟩, ⟨_, rfl, ?_⟩, trivial⟩
              ·
                refine r_move rfl rfl rfl ?_
                refine run_nil ?_
                refine t_node [3, 4] (by kernel_rfl) rfl ⟨⟨_, rfl, ?_⟩, ⟨_, rfl, ?_⟩, trivial⟩
                ·
                  refine r_div (r := ((u % v : Nat) : Int)) rfl rfl rfl rfl (by omega) (congrArg some (rem_n _ _ rfl rfl)) ?_
                  refine run_nil ?_
                  refine t_node [4] (by kernel_rfl) rfl ⟨⟨_, rfl, ?_⟩, trivial⟩
                  ·
                    refine r_assign rfl rfl rfl ?_
                    refine run_nil ?_
                    refine t_node [5] (by kernel_rfl) rfl ⟨⟨_, rfl, ?_⟩, trivial⟩
                    ·
                      refine r_assign rfl rfl rfl ?_
                      refine run_nil ?_
                      exact ⟨by kernel_rfl, rfl, ⟨rfl, rfl, rfl, trivial⟩, rfl⟩
                ·
                  refine r_assign rfl rfl rfl ?_
                  refine run_nil ?_
                  refine t_node [3] (by kernel_rfl) rfl ⟨⟨_, rfl, ?_⟩, trivial⟩
                  ·
                    refine r_div (r := ((u % v : Nat) : Int)) rfl rfl rfl rfl (by omega) (congrArg some (rem_n _ _ rfl rfl)) ?_
                    refine run_nil ?_
                    refine t_node [5] (by kernel_rfl) rfl ⟨⟨_, rfl, ?_⟩, trivial⟩
                    ·
                      refine r_assign rfl rfl rfl ?_
                      refine run_nil ?_
                      exact ⟨by kernel_rfl, rfl, ⟨rfl, rfl, rfl, trivial⟩, rfl⟩
              ·
                refine r_div (r := ((u % v : Nat) : Int)) rfl rfl rfl rfl (by omega) (congrArg some (rem_n _ _ rfl rfl)) ?_
                refine run_nil ?_
                refine t_node [0] (by kernel_rfl) rfl ⟨⟨_, rfl, ?_⟩, trivial⟩
                ·
                  refine r_move rfl rfl rfl ?_
                  refine run_nil ?_
                  refine t_node [4] (by kernel_rfl) rfl ⟨⟨_, rfl, ?_⟩, trivial⟩
                  ·
                    refine r_assign rfl rfl rfl ?_
                    refine run_nil ?_
                    refine t_node [5] (by kernel_rfl) rfl ⟨⟨_, rfl, ?_⟩, trivial⟩
                    ·
                      refine r_assign rfl rfl rfl ?_
                      refine run_nil ?_
                      exact ⟨by kernel_rfl, rfl, ⟨rfl, rfl, rfl, trivial⟩, rfl⟩
          ·
            refine r_move rfl rfl rfl ?_
            refine run_nil ?_
            refine t_node [0, 1] (by kernel_rfl) rfl ⟨⟨_, rfl, ?_⟩, ⟨_, rfl, ?_⟩, trivial⟩
            ·
              refine r_move rfl rfl rfl ?_
              refine run_nil ?_
              refine t_node [1] (by kernel_rfl) rfl ⟨⟨_, rfl, ?_⟩, trivial⟩
              ·
                refine r_move rfl rfl rfl ?_
                refine run_nil ?_
                refine t_node [3, 4] (by kernel_rfl) rfl ⟨⟨_, rfl, ?_⟩, ⟨_, rfl, ?_⟩, trivial⟩
                ·
                  refine r_div (r := ((u % v : Nat) : Int)) rfl rfl rfl rfl (by omega) (congrArg some (rem_n _ _ rfl rfl)) ?_
                  refine run_nil ?_
                  refine t_node [4] (by kernel_rfl) rfl ⟨⟨_, rfl, ?_⟩, trivial⟩
                  ·
                    refine r_assign rfl rfl rfl ?_
                    refine run_nil ?_
                    refine t_node [5] (by kernel_rfl) rfl ⟨⟨_, rfl, ?_⟩, trivial⟩
                    ·
                      refine r_assign rfl rfl rfl ?_
                      refine run_nil ?_
                      exact ⟨by kernel_rfl, rfl, ⟨rfl, rfl, rfl, trivial⟩, rfl⟩
                ·
                  refine r_assign rfl rfl rfl ?_
                  refine run_nil ?_
                  refine t_node [3] (by kernel_rfl) rfl ⟨⟨_, rfl, ?_⟩, trivial⟩
                  ·
                    refine r_div (r := ((u % v : Nat) : Int)) rfl rfl rfl rfl (by omega) (congrArg some (rem_n _ _ rfl rfl)) ?_
                    refine run_nil ?_
                    refine t_node [5] (by kernel_rfl) rfl ⟨⟨_, rfl, ?_⟩, trivial⟩
                    ·
                      refine r_assign rfl rfl rfl ?_
                      refine run_nil ?_
                      exact ⟨by kernel_rfl, rfl, ⟨rfl, rfl, rfl, trivial⟩, rfl⟩
            ·
              refine r_move rfl rfl rfl ?_
              refine run_nil ?_
              refine t_node [0, 3] (by kernel_rfl) rfl ⟨⟨_, rfl, ?_⟩, ⟨_, rfl, ?_⟩, trivial⟩
              ·
                refine r_move rfl rfl rfl ?_
                refine run_nil ?_
                refine t_node [3, 4] (by kernel_rfl) rfl ⟨⟨_, rfl, ?_⟩, ⟨_, rfl, ?_⟩, trivial⟩
                ·
                  refine r_div (r := ((u % v : Nat) : Int)) rfl rfl rfl rfl (by omega) (congrArg some (rem_n _ _ rfl rfl)) ?_
                  refine run_nil ?_
                  refine t_node [4] (by kernel_rfl) rfl ⟨⟨_, rfl, ?_⟩, trivial⟩
                  ·
                    refine r_assign rfl rfl rfl ?_
                    refine run_nil ?_
                    refine t_node [5] (by kernel_rfl) rfl ⟨⟨_, rfl, ?_⟩, trivial⟩
                    ·
                      refine r_assign rfl rfl rfl ?_
                      refine run_nil ?_
                      exact ⟨by kernel_rfl, rfl, ⟨rfl, rfl, rfl, trivial⟩, rfl⟩
                ·
                  refine r_assign rfl rfl rfl ?_
                  refine run_nil ?_
                  refine t_node [3] (by kernel_rfl) rfl ⟨⟨_, rfl, ?_⟩, trivial⟩
                  ·
                    refine r_div (r := ((u % v : Nat) : Int)) rfl rfl rfl rfl (by omega) (congrArg some (rem_n _ _ rfl rfl)) ?_
                    refine run_nil ?_
                    refine t_node [5] (by kernel_rfl) rfl ⟨⟨_, rfl, ?_⟩, trivial⟩
                    ·
                      refine r_assign rfl rfl rfl ?_
                      refine run_nil ?_
                      exact ⟨by kernel_rfl, rfl, ⟨rfl, rfl, rfl, trivial⟩, rfl⟩
              ·
                refine r_div (r := ((u % v : Nat) : Int)) rfl rfl rfl rfl (by omega) (congrArg some (rem_n _ _ rfl rfl)) ?_
                refine run_nil ?_
                refine t_node [0] (by kernel_rfl) rfl ⟨⟨_, rfl, ?_⟩, trivial⟩
                ·
                  refine r_move rfl rfl rfl ?_
                  refine run_nil ?_
                  refine t_node [4] (by kernel_rfl) rfl ⟨⟨_, rfl, ?_⟩, trivial⟩
                  ·
                    refine r_assign rfl rfl rfl ?_
                    refine run_nil ?_
                    refine t_node [5] (by kernel_rfl) rfl ⟨⟨_, rfl, ?_⟩, trivial⟩
                    ·
                      refine r_assign rfl rfl rfl ?_
                      refine run_nil ?_
                      exact ⟨by kernel_rfl, rfl, ⟨rfl, rfl, rfl, trivial⟩, rfl⟩
        refine at_bn ?_
        refine at_tn ?_
        exact nextL ⟨(v, u % v), by rw [← hg2]; exact gcd_step u v, hv, Nat.lt_of_le_of_lt (Nat.mod_le _ _) hu⟩ (Nat.mod_lt _ (Nat.pos_of_ne_zero hv0)) ⟨rfl, rfl, rfl, trivial⟩ (Weak.refl _)
      ·
        have hv0 : v = 0 := by have := of_bne_f hb4; omega
        subst hv0
        rw [Nat.gcd_zero_right] at hg2
        refine at_exit ?_
        refine at_te ?_
        refine at_te ?_
        refine at_be ?_
        refine at_tn ?_
        refine at_seq ?_
        refine at_region ?_
        refine r_move rfl rfl rfl ?_
        refine r_pcall [_] rfl rfl rfl (c_integer_magnitude _ hu) ?_
        refine r_pcall [_, _] rfl rfl rfl (c_integer_made _ _) ?_
        refine r_store rfl 2 0 [_, _, ⟨some g2, 23, _, 2, true⟩] [_, _] rfl rfl rfl rfl ti23 rfl rfl rfl rfl rfl ?_
        refine run_nil ?_
        refine at_tn ?_
        refine at_ret ?_
        refine at_tr ?_
        refine at_br ?_
        refine at_tr ?_
        refine at_br ?_
        refine at_tr ?_
        refine at_end1 rfl (res_cell 2 rfl rfl ti23 (vs := [_, _]) rfl rfl (Nat.le_of_ble_eq_true rfl) rfl) (fun w hL => ⟨?_, hL.below⟩)
        exact congrArg (fun z => Ending.returned (I z)) (gcd_fin hg2)
    ·
      refine at_skip ?_
      refine at_tn ?_
      refine at_seq ?_
      refine at_region ?_
      refine r_move rfl rfl rfl ?_
      refine r_move rfl rfl rfl ?_
      refine r_pcall [_, _] rfl rfl rfl (c_integer_div _ _ hx hy hy0) ?_
      refine r_move rfl rfl rfl ?_
      refine r_extract (vs := [_, _]) rfl rfl rfl rfl ?_
      refine r_extract (vs := [_, _]) rfl rfl rfl rfl ?_
      refine r_assign rfl rfl rfl ?_
      refine r_assign rfl rfl rfl ?_
      refine run_nil ?_
      refine at_tn ?_
      refine at_region ?_
      refine r_move rfl rfl rfl ?_
      refine r_move rfl rfl rfl ?_
      refine r_assign rfl rfl rfl ?_
      refine r_assign rfl rfl rfl ?_
      refine run_nil ?_
      refine at_bn ?_
      refine at_tn ?_
      exact nextL ⟨(y, x % y), by rw [← hg]; exact gcd_step x y, hy, Nat.le_trans (nb_mono (Nat.mod_le _ _)) hx⟩ (Nat.mod_lt _ (Nat.pos_of_ne_zero hy0)) ⟨rfl, rfl, rfl, trivial⟩ (Weak.refl _)
  ·
    have hy0 : y = 0 := by rw [bne_empty] at hb1; simpa using hb1
    subst hy0
    rw [Nat.gcd_zero_right] at hg
    refine at_exit ?_
    refine at_te ?_
    refine at_te ?_
    refine at_be ?_
    refine at_tn ?_
    refine at_seq ?_
    refine at_region ?_
    refine r_move rfl rfl rfl ?_
    refine r_pcall [_, _] rfl rfl rfl (c_integer_made _ _) ?_
    refine r_store rfl 2 0 [_, _, ⟨some g2, 23, _, 2, true⟩] [_, _] rfl rfl rfl rfl ti23 rfl rfl rfl rfl rfl ?_
    refine run_nil ?_
    refine at_tn ?_
    refine at_ret ?_
    refine at_end1 rfl (res_cell 2 rfl rfl ti23 (vs := [_, _]) rfl rfl (Nat.le_of_ble_eq_true rfl) rfl) (fun w hL => ⟨?_, hL.below⟩)
    exact congrArg (fun z => Ending.returned (I z)) (gcd_fin hg)

set_option maxRecDepth 20000 in
theorem c_integer_ToInt (z : Int) : PCall Tryz.prog 87 #[I z] (.tuple #[.int .i64 (if -9223372036854775808 ≤ z ∧ z ≤ 9223372036854775807 then z else 0), .bool (decide (-9223372036854775808 ≤ z ∧ z ≤ 9223372036854775807))]) := by
  refine ⟨by kernel_rfl, fun w => ?_⟩
  refine calls_at (args := [I z]) Tryz.func87 rfl (Nat.le_of_ble_eq_true rfl) (LRel.nil w) ?_
  show At w ⟨35, [(0, I z)], []⟩ _
  refine at_seq ?_
  refine at_region ?_
  refine r_box [_, _] 2 (fun g => [⟨some g, 23, _, 2, true⟩]) rfl rfl rfl rfl rfl (fun _ => rfl) (fun g0 => ?_)
  refine r_assign rfl rfl rfl ?_
  refine r_assign rfl rfl rfl ?_
  refine run_nil ?_
  refine at_tn ?_
  refine at_seq ?_
  refine at_region ?_
  refine r_fieldAddr 0 0 1 rfl rfl rfl rfl rfl ti23 rfl rfl ?_
  refine r_load 0 1 [_] rfl rfl rfl rfl ti9 rfl rfl rfl rfl ?_
  refine r_pcall [_] rfl rfl rfl (c_integer_word _) ?_
  refine r_move rfl rfl rfl ?_
  refine r_extract (vs := [_, _]) rfl rfl rfl rfl ?_
  refine r_extract (vs := [_, _]) rfl rfl rfl rfl ?_
  refine r_assign rfl rfl rfl ?_
  refine r_assign rfl rfl rfl ?_
  refine run_nil ?_
  refine at_tn ?_
  refine at_seq ?_
  refine at_block ?_
  refine at_seq ?_
  refine at_region ?_
  refine r_move rfl rfl rfl ?_
  refine r_not rfl rfl rfl ?_
  refine r_assign rfl rfl rfl ?_
  refine run_nil ?_
  refine at_tn ?_
  refine at_cond rfl (fun hb0 => ?_) (fun hb0 => ?_)
  ·
    refine at_seq ?_
    refine at_region ?_
    refine r_assign rfl rfl rfl ?_
    refine r_assign rfl rfl rfl ?_
    refine run_nil ?_
    refine at_tn ?_
    refine at_ret ?_
    refine at_br ?_
    refine at_tr ?_
    refine at_end2 rfl (res_tmp rfl) (res_tmp rfl) (fun w hL => ⟨?_, hL.below⟩)
    rw [(toInt_big hb0).1, (toInt_big hb0).2]
  ·
    have h8 := nb8 hb0
    have h64 := lt_of_nb_le h8
    refine at_know 4 (.int .u64 (z.natAbs : Nat)) rfl (by rw [if_pos h8]) ?_
    refine at_seq ?_
    refine at_region ?_
    refine r_fieldAddr 0 0 0 rfl rfl rfl rfl rfl ti23 rfl rfl ?_
    refine r_load 0 0 [_] rfl rfl rfl rfl ti4 rfl rfl rfl rfl ?_
    refine r_move rfl rfl rfl ?_
    refine r_split 18 rfl (fun hb1 => ?_) (fun hb1 => ?_)
    ·
      have hz : z < 0 := of_decide_eq_true hb1
      refine r_move rfl rfl rfl ?_
      refine r_cmpInt rfl rfl rfl rfl rfl ?_
      refine r_pickT rfl rfl rfl rfl ?_
      refine r_assign rfl rfl rfl ?_
      refine run_nil ?_
      refine at_tn ?_
      refine at_cond rfl (fun hb2 => ?_) (fun hb2 => ?_)
      ·
        have hu := of_decide_eq_true hb2
        refine at_seq ?_
        refine at_region ?_
        refine r_move rfl rfl rfl ?_
        refine r_neg (r := (0 - (z.natAbs : Nat) : Int) % 18446744073709551616) rfl rfl rfl ((wu64 _)) ?_
        refine r_conv (r := z) u109 u3 rfl rfl rfl (by rw [IntKind.wrap_i64]; omega) ?_
        refine r_assign rfl rfl rfl ?_
        refine r_assign rfl rfl rfl ?_
        refine run_nil ?_
        refine at_tn ?_
        refine at_ret ?_
        refine at_br ?_
        refine at_tr ?_
        refine at_end2 rfl (res_tmp rfl) (res_tmp rfl) (fun w hL => ⟨?_, hL.below⟩)
        rw [(toInt_yes (z := z) (by omega)).1, (toInt_yes (z := z) (by omega)).2]
      ·
        have hu := of_decide_eq_false hb2
        refine at_seq ?_
        refine at_region ?_
        refine r_fieldAddr 0 0 0 rfl rfl rfl rfl rfl ti23 rfl rfl ?_
        refine r_load 0 0 [_] rfl rfl rfl rfl ti4 rfl rfl rfl rfl ?_
        refine r_not rfl rfl rfl ?_
        refine r_move rfl rfl rfl ?_
        refine r_split 29 rfl (fun hb3 => ?_) (fun hb3 => ?_)
        ·
          have hz2 : ¬ z < 0 := by simpa using hb3
          refine r_move rfl rfl rfl ?_
          refine r_cmpInt rfl rfl rfl rfl rfl ?_
          refine r_pickT rfl rfl rfl rfl ?_
          refine r_assign rfl rfl rfl ?_
          refine run_nil ?_
          refine at_tn ?_
          refine at_cond rfl (fun hb4 => ?_) (fun hb4 => ?_)
          ·
            have hu := of_decide_eq_true hb4
            refine at_seq ?_
            refine at_region ?_
            refine r_move rfl rfl rfl ?_
            refine r_conv (r := z) u109 u3 rfl rfl rfl (by rw [IntKind.wrap_i64]; omega) ?_
            refine r_assign rfl rfl rfl ?_
            refine r_assign rfl rfl rfl ?_
            refine run_nil ?_
            refine at_tn ?_
            refine at_ret ?_
            refine at_br ?_
            refine at_tr ?_
            refine at_end2 rfl (res_tmp rfl) (res_tmp rfl) (fun w hL => ⟨?_, hL.below⟩)
            exfalso; omega
          ·
            have hu := of_decide_eq_false hb4
            refine at_skip ?_
            refine at_bn ?_
            refine at_tn ?_
            refine at_seq ?_
            refine at_region ?_
            refine r_assign rfl rfl rfl ?_
            refine r_assign rfl rfl rfl ?_
            refine run_nil ?_
            refine at_tn ?_
            refine at_ret ?_
            refine at_end2 rfl (res_tmp rfl) (res_tmp rfl) (fun w hL => ⟨?_, hL.below⟩)
            exfalso; omega
        ·
          have hz2 : z < 0 := by simpa using hb3
          refine r_no rfl rfl rfl ?_
          refine r_no rfl rfl rfl ?_
          refine r_pickF rfl rfl rfl rfl ?_
          refine r_assign rfl rfl rfl ?_
          refine run_nil ?_
          refine at_tn ?_
          refine at_condF rfl ?_
          refine at_skip ?_
          refine at_bn ?_
          refine at_tn ?_
          refine at_seq ?_
          refine at_region ?_
          refine r_assign rfl rfl rfl ?_
          refine r_assign rfl rfl rfl ?_
          refine run_nil ?_
          refine at_tn ?_
          refine at_ret ?_
          refine at_end2 rfl (res_tmp rfl) (res_tmp rfl) (fun w hL => ⟨?_, hL.below⟩)
          rw [(toInt_no (z := z) (by omega)).1, (toInt_no (z := z) (by omega)).2]
    ·
      have hz : ¬ z < 0 := of_decide_eq_false hb1
      refine r_no rfl rfl rfl ?_
      refine r_no rfl rfl rfl ?_
      refine r_pickF rfl rfl rfl rfl ?_
      refine r_assign rfl rfl rfl ?_
      refine run_nil ?_
      refine at_tn ?_
      refine at_condF rfl ?_
      refine at_seq ?_
      refine at_region ?_
      refine r_fieldAddr 0 0 0 rfl rfl rfl rfl rfl ti23 rfl rfl ?_
      refine r_load 0 0 [_] rfl rfl rfl rfl ti4 rfl rfl rfl rfl ?_
      refine r_not rfl rfl rfl ?_
      refine r_move rfl rfl rfl ?_
      refine r_split 29 rfl (fun hb2 => ?_) (fun hb2 => ?_)
      ·
        have hz2 : ¬ z < 0 := by simpa using hb2
        refine r_move rfl rfl rfl ?_
        refine r_cmpInt rfl rfl rfl rfl rfl ?_
        refine r_pickT rfl rfl rfl rfl ?_
        refine r_assign rfl rfl rfl ?_
        refine run_nil ?_
        refine at_tn ?_
        refine at_cond rfl (fun hb3 => ?_) (fun hb3 => ?_)
        ·
          have hu := of_decide_eq_true hb3
          refine at_seq ?_
          refine at_region ?_
          refine r_move rfl rfl rfl ?_
          refine r_conv (r := z) u109 u3 rfl rfl rfl (by rw [IntKind.wrap_i64]; omega) ?_
          refine r_assign rfl rfl rfl ?_
          refine r_assign rfl rfl rfl ?_
          refine run_nil ?_
          refine at_tn ?_
          refine at_ret ?_
          refine at_br ?_
          refine at_tr ?_
          refine at_end2 rfl (res_tmp rfl) (res_tmp rfl) (fun w hL => ⟨?_, hL.below⟩)
          rw [(toInt_yes (z := z) (by omega)).1, (toInt_yes (z := z) (by omega)).2]
        ·
          have hu := of_decide_eq_false hb3
          refine at_skip ?_
          refine at_bn ?_
          refine at_tn ?_
          refine at_seq ?_
          refine at_region ?_
          refine r_assign rfl rfl rfl ?_
          refine r_assign rfl rfl rfl ?_
          refine run_nil ?_
          refine at_tn ?_
          refine at_ret ?_
          refine at_end2 rfl (res_tmp rfl) (res_tmp rfl) (fun w hL => ⟨?_, hL.below⟩)
          rw [(toInt_no (z := z) (by omega)).1, (toInt_no (z := z) (by omega)).2]
      ·
        have hz2 : z < 0 := by simpa using hb2
        refine r_no rfl rfl rfl ?_
        refine r_no rfl rfl rfl ?_
        refine r_pickF rfl rfl rfl rfl ?_
        refine r_assign rfl rfl rfl ?_
        refine run_nil ?_
        refine at_tn ?_
        refine at_condF rfl ?_
        refine at_skip ?_
        refine at_bn ?_
        refine at_tn ?_
        refine at_seq ?_
        refine at_region ?_
        refine r_assign rfl rfl rfl ?_
        refine r_assign rfl rfl rfl ?_
        refine run_nil ?_
        refine at_tn ?_
        refine at_ret ?_
        refine at_end2 rfl (res_tmp rfl) (res_tmp rfl) (fun w hL => ⟨?_, hL.below⟩)
        exfalso; omega

set_option maxRecDepth 20000 in
theorem c_integer_Check (b : Bool) (s : ByteArray) : PCall Tryz.prog 111 #[.agg #[.bool b, .string s]] (.int .i64 (if badI b s = true then 5 else 0)) := by
  refine ⟨by kernel_rfl, fun w => ?_⟩
  refine calls_at (args := [.agg #[.bool b, .string s]]) Tryz.func111 rfl (Nat.le_of_ble_eq_true rfl) (LRel.nil w) ?_
  show At w ⟨21, [(0, .agg #[.bool b, .string s])], []⟩ _
  refine at_seq ?_
  refine at_region ?_
  refine r_box [_, _] 2 (fun g => [⟨some g, 23, _, 2, true⟩]) rfl rfl rfl rfl rfl (fun _ => rfl) (fun g0 => ?_)
  refine r_assign rfl rfl rfl ?_
  refine run_nil ?_
  refine at_tn ?_
  refine at_seq ?_
  refine at_seq ?_
  refine at_region ?_
  refine r_fieldAddr 0 0 1 rfl rfl rfl rfl rfl ti23 rfl rfl ?_
  refine r_load 0 1 [_] rfl rfl rfl rfl ti9 rfl rfl rfl rfl ?_
  refine r_eqlStr rfl rfl rfl rfl ?_
  refine r_move rfl rfl rfl ?_
  refine r_split 6 rfl (fun hb0 => ?_) (fun hb0 => ?_)
  ·
    have he := ba_nil hb0
    refine r_fieldAddr 0 0 0 rfl rfl rfl rfl rfl ti23 rfl rfl ?_
    refine r_load 0 0 [_] rfl rfl rfl rfl ti4 rfl rfl rfl rfl ?_
    refine r_pickT rfl rfl rfl rfl ?_
    refine r_move rfl rfl rfl ?_
    refine r_split 10 rfl (fun hb1 => ?_) (fun hb1 => ?_)
    ·
      refine r_no rfl rfl rfl ?_
      refine r_no rfl rfl rfl ?_
      refine r_no rfl rfl rfl ?_
      refine r_no rfl rfl rfl ?_
      refine r_no rfl rfl rfl ?_
      refine r_no rfl rfl rfl ?_
      refine r_no rfl rfl rfl ?_
      refine r_no rfl rfl rfl ?_
      refine r_no rfl rfl rfl ?_
      refine r_pickT rfl rfl rfl rfl ?_
      refine run_nil ?_
      refine at_tn ?_
      refine at_condT rfl ?_
      refine at_seq ?_
      refine at_region ?_
      refine r_assign rfl rfl rfl ?_
      refine run_nil ?_
      refine at_tn ?_
      refine at_ret ?_
      refine at_tr ?_
      refine at_end1 rfl (res_tmp rfl) (fun w hL => ⟨?_, hL.below⟩)
      rw [if_pos (badI_1 he hb1)]
    ·
      refine r_fieldAddr 0 0 1 rfl rfl rfl rfl rfl ti23 rfl rfl ?_
      refine r_load 0 1 [_] rfl rfl rfl rfl ti9 rfl rfl rfl rfl ?_
      refine r_neqStr rfl rfl rfl rfl ?_
      refine r_move rfl rfl rfl ?_
      refine r_split 14 rfl (fun hb2 => ?_) (fun hb2 => ?_)
      · exact absurd hb2 (by rw [he, bne, beq_ee]; decide)
      ·
        refine r_no rfl rfl rfl ?_
        refine r_no rfl rfl rfl ?_
        refine r_no rfl rfl rfl ?_
        refine r_no rfl rfl rfl ?_
        refine r_pickF rfl rfl rfl rfl ?_
        refine r_pickF rfl rfl rfl rfl ?_
        refine run_nil ?_
        refine at_tn ?_
        refine at_condF rfl ?_
        refine at_skip ?_
        refine at_tn ?_
        refine at_seq ?_
        refine at_region ?_
        refine r_assign rfl rfl rfl ?_
        refine run_nil ?_
        refine at_tn ?_
        refine at_ret ?_
        refine at_end1 rfl (res_tmp rfl) (fun w hL => ⟨?_, hL.below⟩)
        rw [if_neg (badI_2 he hb1)]
  ·
    obtain ⟨x, l, he⟩ := ba_ne hb0
    refine r_no rfl rfl rfl ?_
    refine r_no rfl rfl rfl ?_
    refine r_pickF rfl rfl rfl rfl ?_
    refine r_move rfl rfl rfl ?_
    refine r_fieldAddr 0 0 1 rfl rfl rfl rfl rfl ti23 rfl rfl ?_
    refine r_load 0 1 [_] rfl rfl rfl rfl ti9 rfl rfl rfl rfl ?_
    refine r_neqStr rfl rfl rfl rfl ?_
    refine r_move rfl rfl rfl ?_
    refine r_split 14 rfl (fun hb1 => ?_) (fun hb1 => ?_)
    ·
      refine r_fieldAddr 0 0 1 rfl rfl rfl rfl rfl ti23 rfl rfl ?_
      refine r_load 0 1 [_] rfl rfl rfl rfl ti9 rfl rfl rfl rfl ?_
      refine r_idxS (b := x) (r := (x.toNat : Int)) u9 rfl rfl rfl rfl (by omega) (by rw [he]; rfl) rfl ?_
      refine r_cmpInt rfl rfl rfl rfl rfl ?_
      refine r_pickT rfl rfl rfl rfl ?_
      refine r_pickF rfl rfl rfl rfl ?_
      refine run_nil ?_
      refine at_tn ?_
      refine at_cond rfl (fun hb2 => ?_) (fun hb2 => ?_)
      ·
        refine at_seq ?_
        refine at_region ?_
        refine r_assign rfl rfl rfl ?_
        refine run_nil ?_
        refine at_tn ?_
        refine at_ret ?_
        refine at_tr ?_
        refine at_end1 rfl (res_tmp rfl) (fun w hL => ⟨?_, hL.below⟩)
        rw [if_pos (badI_3 he hb2)]
      ·
        refine at_skip ?_
        refine at_tn ?_
        refine at_seq ?_
        refine at_region ?_
        refine r_assign rfl rfl rfl ?_
        refine run_nil ?_
        refine at_tn ?_
        refine at_ret ?_
        refine at_end1 rfl (res_tmp rfl) (fun w hL => ⟨?_, hL.below⟩)
        rw [if_neg (badI_4 hb0 he hb2)]
    · exact absurd hb1 (by rw [bne, hb0]; decide)

end Go.Proofs.YthnlafhnpphdhaaGreatDoor
set_option linter.unusedVariables false
namespace Go.Via
open Go
/-! ### digits to the base 256, as the reference has them -/
def D8 (n : Nat) : List Nat := digs 256 n
theorem D8_length (n : Nat) : (D8 n).length = nb n := rfl
theorem D8_get {n i : Nat} (h : i < nb n) : (D8 n)[i]? = some (n / 256 ^ i % 256) := digs_getElem? (by omega) n i h
theorem step256 (n q : Nat) : n / 256 ^ q = n / 256 ^ (q + 1) * 256 + n / 256 ^ q % 256 := by
  rw [Nat.pow_succ, ← Nat.div_div_eq_div_mul]
  have := Nat.div_add_mod (n / 256 ^ q) 256
  omega
theorem lt_of_div {a b q : Nat} (h : a / 256 ^ q < b / 256 ^ q) : a < b := by
  rcases Nat.lt_or_ge a b with c | c
  · exact c
  · have := Nat.div_le_div_right (c := 256 ^ q) c; omega
theorem cmp_len_lt {a b : Nat} (h : nb a < nb b) : cmpN a b = -1 := by unfold cmpN; rw [if_pos (nb_lt h)]
theorem cmp_len_gt {a b : Nat} (h : nb b < nb a) : cmpN a b = 1 := by
  have := nb_lt h; unfold cmpN; rw [if_neg (by omega), if_pos this]
theorem cmp_dig_lt {a b q : Nat} (he : a / 256 ^ (q + 1) = b / 256 ^ (q + 1)) (h : a / 256 ^ q % 256 < b / 256 ^ q % 256) : cmpN a b = -1 := by
  have h1 := step256 a q
  have h2 := step256 b q
  have : a < b := lt_of_div (q := q) (by omega)
  unfold cmpN; rw [if_pos this]
theorem cmp_dig_gt {a b q : Nat} (he : a / 256 ^ (q + 1) = b / 256 ^ (q + 1)) (h : b / 256 ^ q % 256 < a / 256 ^ q % 256) : cmpN a b = 1 := by
  have h1 := step256 a q
  have h2 := step256 b q
  have : b < a := lt_of_div (q := q) (by omega)
  unfold cmpN; rw [if_neg (by omega), if_pos this]
theorem cmp_dig_eq {a b q : Nat} (he : a / 256 ^ (q + 1) = b / 256 ^ (q + 1)) (h1 : ¬ a / 256 ^ q % 256 < b / 256 ^ q % 256) (h2 : ¬ b / 256 ^ q % 256 < a / 256 ^ q % 256) : a / 256 ^ q = b / 256 ^ q := by
  have e1 := step256 a q
  have e2 := step256 b q
  omega
theorem cmp_top {a b : Nat} (h : nb a = nb b) : a / 256 ^ nb a = b / 256 ^ nb a := by
  rw [Nat.div_eq_of_lt (lt_nb a), h, Nat.div_eq_of_lt (lt_nb b)]
theorem cmp_end {a b : Nat} (h : a / 256 ^ 0 = b / 256 ^ 0) : cmpN a b = 0 := by
  have : a = b := by simpa using h
  subst this; unfold cmpN; rw [if_neg (Nat.lt_irrefl _), if_neg (Nat.lt_irrefl _)]
theorem small_lt {n q : Nat} (h7 : nb n ≤ 7) : n / 256 ^ q < 72057594037927936 := by
  have h1 := lt_of_nb_le h7
  have : n / 256 ^ q ≤ n := Nat.div_le_self _ _
  omega
theorem bytT_rev (n : Nat) : row (nb n) (bytT n (nb n) (nb n)) = (digs 256 n).reverse := by
  apply List.ext_getElem?
  intro j
  by_cases hj : j < nb n
  · rw [row_get hj, List.getElem?_reverse (by exact hj)]
    have e := digs_getElem? (B := 256) (by omega) n (nb n - 1 - j) (by unfold nb at *; omega)
    unfold nb at e hj ⊢
    rw [e]
    unfold bytT
    rw [if_pos (by omega)]
  · rw [List.getElem?_eq_none (by rw [row_length]; omega), List.getElem?_eq_none (by simp; unfold nb at hj; omega)]
theorem D8_trim (n : Nat) : digs 256 (val 256 (D8 n)) = D8 n := by unfold D8; rw [val_digs (by omega)]
end Go.Via
set_option linter.unusedVariables false
namespace Go.Via
open Go
def dg8 (n j : Nat) : Nat := n / 256 ^ j % 256
theorem dg8_lt (n j : Nat) : dg8 n j < 256 := Nat.mod_lt _ (by decide)
theorem D8_row (n : Nat) : row (nb n) (dg8 n) = D8 n := (digs_row (B := 256) (by omega) n).symm
theorem NV_snoc (k : IntKind) (i : Nat) (f : Nat → Nat) (d : Int) (h : d = ((f i : Nat) : Int)) : NV k (row i f) ++ [.int k d] = NV k (row (i + 1) f) := by
  subst h
  unfold NV row
  rw [List.range_succ, List.map_append, List.map_append]; rfl
theorem one_cell (k : IntKind) (d : Int) : ∀ v ∈ [Value.int k d], v.oneCell' = true := by
  intro v hv; rw [List.mem_singleton.1 hv]; rfl
theorem div_le_nb {n i : Nat} (h : 0 < n / 256 ^ i) : i < nb n := by
  rcases Nat.lt_or_ge i (nb n) with c | c
  · exact c
  · rw [Nat.div_eq_of_lt (Nat.lt_of_lt_of_le (lt_nb n) (pow256_le c))] at h; omega
theorem nb_of_div {n i : Nat} (h : n / 256 ^ i = 0) (hi : i ≤ nb n) : i = nb n := by
  have h1 : n < 256 ^ i := (Nat.div_eq_zero_iff_lt (Nat.pow_pos (by omega))).1 h
  have := nb_le h1
  omega
theorem div256 (n i : Nat) : n / 256 ^ i / 256 = n / 256 ^ (i + 1) := by rw [Nat.pow_succ, Nat.div_div_eq_div_mul]
theorem D8_lt (n : Nat) : ∀ d ∈ D8 n, d < 256 := digs_lt (by omega)
theorem D8_trim_len (n : Nat) : (digs 256 (val 256 (D8 n))).length = nb n := by rw [D8_trim]; rfl
theorem D8_row_trim (n : Nat) : (digs 256 (val 256 (row (nb n) (dg8 n)))).length = nb n := by rw [D8_row, D8_trim_len]
end Go.Via
namespace Go.Via
open Go
theorem whole_T (n : Nat) {neg : Bool} (h : neg = true) : Value.agg #[.bool (decide ((0 : Int) < nb n)), .string (mag n)] = I (if neg = true then -(n : Int) else (n : Int)) := by
  rw [if_pos h]
  have e := nb_eq_zero (n := n)
  unfold I
  have h1 : decide ((0 : Int) < nb n) = decide (-(n : Int) < 0) := by
    by_cases c : n = 0
    · subst c; rw [nb_zero]; rfl
    · rw [decide_eq_true (by omega), decide_eq_true (by omega)]
  rw [h1, Int.natAbs_neg, Int.natAbs_natCast]
theorem whole_F (n : Nat) {neg : Bool} (h : neg = false) : Value.agg #[.bool false, .string (mag n)] = I (if neg = true then -(n : Int) else (n : Int)) := by
  subst h
  rw [if_neg (by decide)]
  unfold I
  rw [decide_eq_false (by omega), Int.natAbs_natCast]
end Go.Via
set_option linter.unusedVariables false
namespace Go.Proofs.YthnlafhnpphdhaaGreatDoor
open Go Go.RowKit Go.Via
set_option maxRecDepth 20000 in
theorem c_ref02_trim (l : List Nat) (hl : ∀ d ∈ l, d < 256) (hn : l.length ≤ 1073741824) {len : Nat} (hlen : l.length = len) (x : SR len) : SCall Tryz.prog 110 [⟨x.b, 3, NV .i64 l, x.n, false⟩] [x.v] Unit (fun _ => slv x.b 0 (digs 256 (val 256 l)).length x.cap) (fun _ => []) := by
  refine ⟨by kernel_rfl, fun w hL0 => ?_⟩
  subst hlen
  refine calls_at (args := [x.v]) Tryz.func110 rfl (Nat.le_of_ble_eq_true rfl) hL0 ?_
  show At w ⟨21, [(0, x.v)], [⟨x.b, 3, NV .i64 l, x.n, false⟩]⟩ _
  refine at_seq ?_
  refine at_region ?_
  refine r_assign rfl rfl rfl ?_
  refine run_nil ?_
  refine at_tn ?_
  refine at_seq ?_
  refine at_region ?_
  refine r_move rfl rfl rfl ?_
  refine r_lenS u85 rfl rfl rfl ?_
  refine r_assign rfl rfl rfl ?_
  refine run_nil ?_
  refine at_tn ?_
  refine at_seq ?_
  refine at_block ?_
  refine enterL (nt := 21) (ι := {m : Nat // m ≤ l.length ∧ val 256 (l.take m) = val 256 l}) (fun ⟨m, hm, hv⟩ => [(0, x.v), (3, .int .i64 (m : Nat))]) (fun ⟨m, hm, hv⟩ => [⟨x.b, 3, NV .i64 l, x.n, false⟩]) (fun ⟨m, hm, hv⟩ => m) ⟨l.length, Nat.le_refl _, by rw [List.take_of_length_le (Nat.le_refl _)]⟩ ⟨rfl, rfl, trivial⟩ (Weak.refl _) ?_
  rintro ⟨m, hm, hv⟩
  show At _ ⟨21, [(0, x.v), (3, .int .i64 (m : Nat))], [⟨x.b, 3, NV .i64 l, x.n, false⟩]⟩ _
  refine at_seq ?_
  refine at_seq ?_
  refine at_region ?_
  refine r_move rfl rfl rfl ?_
  refine r_cmpInt rfl rfl rfl rfl rfl ?_
  refine r_move rfl rfl rfl ?_
  refine r_split 8 rfl (fun hb1 => ?_) (fun hb1 => ?_)
  ·
    have h0 : 0 < m := (by have := of_decide_eq_true hb1; omega)
    refine r_move rfl rfl rfl ?_
    refine r_move rfl rfl rfl ?_
    refine r_arith (r := ((m - 1 : Nat) : Int)) rfl rfl rfl rfl (congrArg some (wi (by omega) (by omega) (by omega))) ?_
    refine r_indexAddr 0 (m - 1) u85 ti3 rfl rfl rfl rfl rfl (by omega) (by omega) (NV_ne (by omega)) (by show 0 + Int.toNat _ * 1 = _; omega) ?_
    refine r_load1 0 (m - 1) ti3 rfl rfl rfl rfl (NV_get (l := l) (List.getElem?_eq_getElem (by omega))) ?_
    refine r_cmpInt rfl rfl rfl rfl rfl ?_
    refine r_pickT rfl rfl rfl rfl ?_
    refine run_nil ?_
    refine at_tn ?_
    refine at_cond rfl (fun hb2 => ?_) (fun hb2 => ?_)
    ·
      have hz : l[m - 1] = 0 := (by have := eq_of_beq hb2; omega)
      refine at_skip ?_
      refine at_tn ?_
      refine at_block ?_
      refine at_region ?_
      refine r_move rfl rfl rfl ?_
      refine r_arith (r := ((m - 1 : Nat) : Int)) rfl rfl rfl rfl (congrArg some (wi (by omega) (by omega) (by omega))) ?_
      refine r_assign rfl rfl rfl ?_
      refine run_nil ?_
      refine at_bn ?_
      refine at_tn ?_
      exact nextL ⟨m - 1, by omega, trim_step' h0 hm hv (by omega) hz⟩ (by simp only []; omega) ⟨rfl, rfl, trivial⟩ (Weak.refl _)
    ·
      have hz : l[m - 1] ≠ 0 := (by have := ne_of_beq_false hb2; omega)
      refine at_exit ?_
      refine at_te ?_
      refine at_te ?_
      refine at_be ?_
      refine at_tn ?_
      refine at_seq ?_
      refine at_region ?_
      refine r_move rfl rfl rfl ?_
      refine r_move rfl rfl rfl ?_
      refine r_sliceH m u85 ti3 rfl rfl rfl rfl (by omega) (by have := x.h; omega) (by omega) ?_
      refine r_assign rfl rfl rfl ?_
      refine run_nil ?_
      refine at_tn ?_
      refine at_ret ?_
      refine at_end1 rfl (res_tmp rfl) (fun w hL => ⟨(), ?_, hL.picks [] trivial rfl rfl⟩)
      rw [trim_len (B := 256) (by decide) hl hm hv (.inr ⟨by omega, hz⟩)]
  ·
    have h0 : m = 0 := (by have := of_decide_eq_false hb1; omega)
    refine r_no rfl rfl rfl ?_
    refine r_no rfl rfl rfl ?_
    refine r_no rfl rfl rfl ?_
    refine r_no rfl rfl rfl ?_
    refine r_no rfl rfl rfl ?_
    refine r_no rfl rfl rfl ?_
    refine r_pickF rfl rfl rfl rfl ?_
    refine run_nil ?_
    refine at_tn ?_
    refine at_condF rfl ?_
    refine at_exit ?_
    refine at_te ?_
    refine at_te ?_
    refine at_be ?_
    refine at_tn ?_
    refine at_seq ?_
    refine at_region ?_
    refine r_move rfl rfl rfl ?_
    refine r_move rfl rfl rfl ?_
    refine r_sliceH m u85 ti3 rfl rfl rfl rfl (by omega) (by have := x.h; omega) (by omega) ?_
    refine r_assign rfl rfl rfl ?_
    refine run_nil ?_
    refine at_tn ?_
    refine at_ret ?_
    refine at_end1 rfl (res_tmp rfl) (fun w hL => ⟨(), ?_, hL.picks [] trivial rfl rfl⟩)
    rw [trim_len (B := 256) (by decide) hl hm hv (.inl h0)]

set_option maxRecDepth 20000 in
theorem c_ref02_compare (a b : Nat) (ha : nb a ≤ 1073741824) (x : SR (nb a)) (y : SR (nb b)) : SCall Tryz.prog 99 [⟨x.b, 3, NV .i64 (D8 a), x.n, false⟩, ⟨y.b, 3, NV .i64 (D8 b), y.n, false⟩] [x.v, y.v] Unit (fun _ => .int .i64 (cmpN a b)) (fun _ => []) := by
  refine ⟨by kernel_rfl, fun w hL0 => ?_⟩
  refine calls_at (args := [x.v, y.v]) Tryz.func99 rfl (Nat.le_of_ble_eq_true rfl) hL0 ?_
  show At w ⟨41, [(0, x.v), (1, y.v)], [⟨x.b, 3, NV .i64 (D8 a), x.n, false⟩, ⟨y.b, 3, NV .i64 (D8 b), y.n, false⟩]⟩ _
  refine at_seq ?_
  refine at_region ?_
  refine r_assign rfl rfl rfl ?_
  refine run_nil ?_
  refine at_tn ?_
  refine at_seq ?_
  refine at_seq ?_
  refine at_region ?_
  refine r_move rfl rfl rfl ?_
  refine r_lenS u85 rfl rfl rfl ?_
  refine r_move rfl rfl rfl ?_
  refine r_lenS u85 rfl rfl rfl ?_
  refine r_cmpInt rfl rfl rfl rfl rfl ?_
  refine run_nil ?_
  refine at_tn ?_
  refine at_cond rfl (fun hb0 => ?_) (fun hb0 => ?_)
  ·
    have hl : nb a ≠ nb b := by have := bne_iff_ne.1 hb0; omega
    refine at_seq ?_
    refine at_seq ?_
    refine at_region ?_
    refine r_move rfl rfl rfl ?_
    refine r_lenS u85 rfl rfl rfl ?_
    refine r_move rfl rfl rfl ?_
    refine r_lenS u85 rfl rfl rfl ?_
    refine r_cmpInt rfl rfl rfl rfl rfl ?_
    refine run_nil ?_
    refine at_tn ?_
    refine at_cond rfl (fun hb1 => ?_) (fun hb1 => ?_)
    ·
      have h1 : nb a < nb b := (by have := of_decide_eq_true hb1; omega)
      refine at_seq ?_
      refine at_region ?_
      refine r_assign rfl rfl rfl ?_
      refine run_nil ?_
      refine at_tn ?_
      refine at_ret ?_
      refine at_tr ?_
      refine at_tr ?_
      refine at_end1 rfl (res_tmp rfl) (fun w hL => ⟨(), ?_, hL.picks [] trivial rfl rfl⟩)
      rw [cmp_len_lt h1]
    ·
      have h1 : nb b < nb a := (by have := of_decide_eq_false hb1; omega)
      refine at_skip ?_
      refine at_tn ?_
      refine at_seq ?_
      refine at_region ?_
      refine r_assign rfl rfl rfl ?_
      refine run_nil ?_
      refine at_tn ?_
      refine at_ret ?_
      refine at_tr ?_
      refine at_end1 rfl (res_tmp rfl) (fun w hL => ⟨(), ?_, hL.picks [] trivial rfl rfl⟩)
      rw [cmp_len_gt h1]
  ·
    have hl : nb a = nb b := by have := of_bne_f hb0; omega
    refine at_skip ?_
    refine at_tn ?_
    refine at_seq ?_
    refine at_seq ?_
    refine at_region ?_
    refine r_move rfl rfl rfl ?_
    refine r_lenS u85 rfl rfl rfl ?_
    refine r_arith (r := ((nb a : Nat) : Int) - 1) rfl rfl rfl rfl (congrArg some (wi (by omega) (by omega) (by omega))) ?_
    refine r_assign rfl rfl rfl ?_
    refine run_nil ?_
    refine at_tn ?_
    refine at_block ?_
    refine enterL (nt := 41) (ι := {p : Nat // p ≤ nb a ∧ a / 256 ^ p = b / 256 ^ p}) (fun ⟨p, hp, he⟩ => [(0, x.v), (1, y.v), (5, .int .i64 ((p : Nat) - 1))]) (fun ⟨p, hp, he⟩ => [⟨x.b, 3, NV .i64 (D8 a), x.n, false⟩, ⟨y.b, 3, NV .i64 (D8 b), y.n, false⟩]) (fun ⟨p, hp, he⟩ => p) ⟨nb a, Nat.le_refl _, cmp_top hl⟩ ⟨rfl, rfl, rfl, trivial⟩ (Weak.refl _) ?_
    rintro ⟨p, hp, he⟩
    show At _ ⟨41, [(0, x.v), (1, y.v), (5, .int .i64 ((p : Nat) - 1))], [⟨x.b, 3, NV .i64 (D8 a), x.n, false⟩, ⟨y.b, 3, NV .i64 (D8 b), y.n, false⟩]⟩ _
    refine at_seq ?_
    refine at_seq ?_
    refine at_region ?_
    refine r_move rfl rfl rfl ?_
    refine r_cmpInt rfl rfl rfl rfl rfl ?_
    refine run_nil ?_
    refine at_tn ?_
    refine at_cond rfl (fun hb2 => ?_) (fun hb2 => ?_)
    ·
      obtain ⟨q, rfl⟩ : ∃ q, p = q + 1 := ⟨p - 1, by have := of_decide_eq_true hb2; omega⟩
      refine at_know 5 (.int .i64 (q : Nat)) rfl (congrArg (Value.int .i64) (by omega)) ?_
      refine at_skip ?_
      refine at_tn ?_
      refine at_seq ?_
      refine at_block ?_
      refine at_seq ?_
      refine at_seq ?_
      refine at_drawn (l' := [⟨_,_,_,_,_,_⟩, ⟨_,_,_,_,_,_⟩, ⟨_,_,_,_,_,_⟩, ⟨_,_,_,_,_,_⟩, ⟨_,_,_,_,_,_⟩, ⟨_,_,_,_,_,_⟩, ⟨_,_,_,_,_,_⟩, ⟨_,_,_,_,_,_⟩, ⟨_,_,_,_,_,_⟩]) [] [0, 1, 2, 3, 4, 5, 6, 7, 8] mixed (by kernel_rfl) rfl (by kernel_rfl) ?_
      refine r_move rfl rfl rfl ?_
      refine r_move rfl rfl rfl ?_
      refine r_indexAddr 0 (q) u85 ti3 rfl rfl rfl rfl rfl (by omega) (by omega) (NV_ne (by rw [D8_length]; omega)) (by show 0 + Int.toNat _ * 1 = _; omega) ?_
      refine r_load1 0 (q) ti3 rfl rfl rfl rfl (NV_get (D8_get (by omega))) ?_
      refine r_move rfl rfl rfl ?_
      refine r_move rfl rfl rfl ?_
      refine r_indexAddr 1 (q) u85 ti3 rfl rfl rfl rfl rfl (by omega) (by omega) (NV_ne (by rw [D8_length]; omega)) (by show 0 + Int.toNat _ * 1 = _; omega) ?_
      refine r_load1 1 (q) ti3 rfl rfl rfl rfl (NV_get (D8_get (by omega))) ?_
      refine r_cmpInt rfl rfl rfl rfl rfl ?_
      refine run_nil ?_
      refine at_tn ?_
      refine at_cond rfl (fun hb3 => ?_) (fun hb3 => ?_)
      ·
        have h1 : a / 256 ^ q % 256 < b / 256 ^ q % 256 := (by have := of_decide_eq_true hb3; omega)
        refine at_seq ?_
        refine at_region ?_
        refine r_assign rfl rfl rfl ?_
        refine run_nil ?_
        refine at_tn ?_
        refine at_ret ?_
        refine at_tr ?_
        refine at_br ?_
        refine at_tr ?_
        refine at_tr ?_
        refine at_br ?_
        refine at_tr ?_
        refine at_end1 rfl (res_tmp rfl) (fun w hL => ⟨(), ?_, hL.picks [] trivial rfl rfl⟩)
        rw [cmp_dig_lt he h1]
      ·
        have h1 : ¬ a / 256 ^ q % 256 < b / 256 ^ q % 256 := (by have := of_decide_eq_false hb3; omega)
        refine at_skip ?_
        refine at_tn ?_
        refine at_seq ?_
        refine at_drawn (l' := [⟨_,_,_,_,_,_⟩, ⟨_,_,_,_,_,_⟩, ⟨_,_,_,_,_,_⟩, ⟨_,_,_,_,_,_⟩, ⟨_,_,_,_,_,_⟩, ⟨_,_,_,_,_,_⟩, ⟨_,_,_,_,_,_⟩, ⟨_,_,_,_,_,_⟩, ⟨_,_,_,_,_,_⟩]) [] [0, 1, 2, 3, 4, 5, 6, 7, 8] mixed (by kernel_rfl) rfl (by kernel_rfl) ?_
        refine r_move rfl rfl rfl ?_
        refine r_move rfl rfl rfl ?_
        refine r_indexAddr 0 (q) u85 ti3 rfl rfl rfl rfl rfl (by omega) (by omega) (NV_ne (by rw [D8_length]; omega)) (by show 0 + Int.toNat _ * 1 = _; omega) ?_
        refine r_load1 0 (q) ti3 rfl rfl rfl rfl (NV_get (D8_get (by omega))) ?_
        refine r_move rfl rfl rfl ?_
        refine r_move rfl rfl rfl ?_
        refine r_indexAddr 1 (q) u85 ti3 rfl rfl rfl rfl rfl (by omega) (by omega) (NV_ne (by rw [D8_length]; omega)) (by show 0 + Int.toNat _ * 1 = _; omega) ?_
        refine r_load1 1 (q) ti3 rfl rfl rfl rfl (NV_get (D8_get (by omega))) ?_
        refine r_cmpInt rfl rfl rfl rfl rfl ?_
        refine run_nil ?_
        refine at_tn ?_
        refine at_cond rfl (fun hb4 => ?_) (fun hb4 => ?_)
        ·
          have h2 : b / 256 ^ q % 256 < a / 256 ^ q % 256 := (by have := of_decide_eq_true hb4; omega)
          refine at_seq ?_
          refine at_region ?_
          refine r_assign rfl rfl rfl ?_
          refine run_nil ?_
          refine at_tn ?_
          refine at_ret ?_
          refine at_br ?_
          refine at_tr ?_
          refine at_tr ?_
          refine at_br ?_
          refine at_tr ?_
          refine at_end1 rfl (res_tmp rfl) (fun w hL => ⟨(), ?_, hL.picks [] trivial rfl rfl⟩)
          rw [cmp_dig_gt he h2]
        ·
          have h2 : ¬ b / 256 ^ q % 256 < a / 256 ^ q % 256 := (by have := of_decide_eq_false hb4; omega)
          refine at_skip ?_
          refine at_bn ?_
          refine at_tn ?_
          refine at_region ?_
          refine r_move rfl rfl rfl ?_
          refine r_arith (r := ((q : Nat) : Int) - 1) rfl rfl rfl rfl (congrArg some (wi (by omega) (by omega) (by omega))) ?_
          refine r_assign rfl rfl rfl ?_
          refine run_nil ?_
          refine at_tn ?_
          exact nextL ⟨q, by omega, cmp_dig_eq he h1 h2⟩ (by simp only []; omega) ⟨rfl, rfl, rfl, trivial⟩ (Weak.refl _)
    ·
      have hp0 : p = 0 := by have := of_decide_eq_false hb2; omega
      subst hp0
      refine at_exit ?_
      refine at_te ?_
      refine at_te ?_
      refine at_be ?_
      refine at_tn ?_
      refine at_seq ?_
      refine at_region ?_
      refine r_assign rfl rfl rfl ?_
      refine run_nil ?_
      refine at_tn ?_
      refine at_ret ?_
      refine at_end1 rfl (res_tmp rfl) (fun w hL => ⟨(), ?_, hL.picks [] trivial rfl rfl⟩)
      rw [cmp_end he]

set_option maxRecDepth 20000 in
theorem c_ref02_small (n : Nat) (hn : nb n ≤ 1073741824) (x : SR (nb n)) : SCall Tryz.prog 124 [⟨x.b, 3, NV .i64 (D8 n), x.n, false⟩] [x.v] Unit (fun _ => .tuple #[.int .i64 (if nb n ≤ 7 then (n : Int) else 0), .bool (decide (nb n ≤ 7))]) (fun _ => []) := by
  refine ⟨by kernel_rfl, fun w hL0 => ?_⟩
  refine calls_at (args := [x.v]) Tryz.func124 rfl (Nat.le_of_ble_eq_true rfl) hL0 ?_
  show At w ⟨24, [(0, x.v)], [⟨x.b, 3, NV .i64 (D8 n), x.n, false⟩]⟩ _
  refine at_seq ?_
  refine at_region ?_
  refine r_assign rfl rfl rfl ?_
  refine r_assign rfl rfl rfl ?_
  refine run_nil ?_
  refine at_tn ?_
  refine at_seq ?_
  refine at_seq ?_
  refine at_region ?_
  refine r_move rfl rfl rfl ?_
  refine r_lenS u85 rfl rfl rfl ?_
  refine r_cmpInt rfl rfl rfl rfl rfl ?_
  refine run_nil ?_
  refine at_tn ?_
  refine at_cond rfl (fun hb0 => ?_) (fun hb0 => ?_)
  ·
    have h8 : ¬ nb n ≤ 7 := (by have := of_decide_eq_true hb0; omega)
    refine at_seq ?_
    refine at_region ?_
    refine r_assign rfl rfl rfl ?_
    refine r_assign rfl rfl rfl ?_
    refine run_nil ?_
    refine at_tn ?_
    refine at_ret ?_
    refine at_tr ?_
    refine at_end2 rfl (res_tmp rfl) (res_tmp rfl) (fun w hL => ⟨(), ?_, hL.picks [] trivial rfl rfl⟩)
    rw [if_neg h8, decide_eq_false h8]
  ·
    have h8 : nb n ≤ 7 := (by have := of_decide_eq_false hb0; omega)
    refine at_skip ?_
    refine at_tn ?_
    refine at_seq ?_
    refine at_region ?_
    refine r_assign rfl rfl rfl ?_
    refine run_nil ?_
    refine at_tn ?_
    refine at_seq ?_
    refine at_seq ?_
    refine at_region ?_
    refine r_move rfl rfl rfl ?_
    refine r_lenS u85 rfl rfl rfl ?_
    refine r_arith (r := ((nb n : Nat) : Int) - 1) rfl rfl rfl rfl (congrArg some (wi (by omega) (by omega) (by omega))) ?_
    refine r_assign rfl rfl rfl ?_
    refine run_nil ?_
    refine at_tn ?_
    refine at_block ?_
    refine enterL (nt := 24) (ι := {p : Nat // p ≤ nb n}) (fun ⟨p, hp⟩ => [(0, x.v), (4, .int .i64 (n / 256 ^ p : Nat)), (5, .int .i64 ((p : Nat) - 1))]) (fun ⟨p, hp⟩ => [⟨x.b, 3, NV .i64 (D8 n), x.n, false⟩]) (fun ⟨p, hp⟩ => p) ⟨nb n, Nat.le_refl _⟩ ⟨rfl, (look_val rfl (by rw [Nat.div_eq_of_lt (lt_nb n)]; rfl)), rfl, trivial⟩ (Weak.refl _) ?_
    rintro ⟨p, hp⟩
    show At _ ⟨24, [(0, x.v), (4, .int .i64 (n / 256 ^ p : Nat)), (5, .int .i64 ((p : Nat) - 1))], [⟨x.b, 3, NV .i64 (D8 n), x.n, false⟩]⟩ _
    refine at_seq ?_
    refine at_seq ?_
    refine at_region ?_
    refine r_move rfl rfl rfl ?_
    refine r_cmpInt rfl rfl rfl rfl rfl ?_
    refine run_nil ?_
    refine at_tn ?_
    refine at_cond rfl (fun hb2 => ?_) (fun hb2 => ?_)
    ·
      obtain ⟨q, rfl⟩ : ∃ q, p = q + 1 := ⟨p - 1, by have := of_decide_eq_true hb2; omega⟩
      refine at_know 5 (.int .i64 (q : Nat)) rfl (congrArg (Value.int .i64) (by omega)) ?_
      have hs1 := small_lt (q := q) h8
      have hs2 := step256 n q
      refine at_skip ?_
      refine at_tn ?_
      refine at_seq ?_
      refine at_block ?_
      refine at_region ?_
      refine r_move rfl rfl rfl ?_
      refine r_arith (r := ((n / 256 ^ (q + 1) * 256 : Nat) : Int)) rfl rfl rfl rfl (congrArg some (wi (by omega) (by omega) (by omega))) ?_
      refine r_move rfl rfl rfl ?_
      refine r_move rfl rfl rfl ?_
      refine r_indexAddr 0 (q) u85 ti3 rfl rfl rfl rfl rfl (by omega) (by omega) (NV_ne (by rw [D8_length]; omega)) (by show 0 + Int.toNat _ * 1 = _; omega) ?_
      refine r_load1 0 (q) ti3 rfl rfl rfl rfl (NV_get (D8_get (by omega))) ?_
      refine r_arith (r := ((n / 256 ^ q : Nat) : Int)) rfl rfl rfl rfl (congrArg some (wi (by omega) (by omega) (by omega))) ?_
      refine r_assign rfl rfl rfl ?_
      refine run_nil ?_
      refine at_bn ?_
      refine at_tn ?_
      refine at_region ?_
      refine r_move rfl rfl rfl ?_
      refine r_arith (r := ((q : Nat) : Int) - 1) rfl rfl rfl rfl (congrArg some (wi (by omega) (by omega) (by omega))) ?_
      refine r_assign rfl rfl rfl ?_
      refine run_nil ?_
      refine at_tn ?_
      exact nextL ⟨q, by omega⟩ (by simp only []; omega) ⟨rfl, rfl, rfl, trivial⟩ (Weak.refl _)
    ·
      have hp0 : p = 0 := by have := of_decide_eq_false hb2; omega
      subst hp0
      refine at_exit ?_
      refine at_te ?_
      refine at_te ?_
      refine at_be ?_
      refine at_tn ?_
      refine at_seq ?_
      refine at_region ?_
      refine r_move rfl rfl rfl ?_
      refine r_assign rfl rfl rfl ?_
      refine r_assign rfl rfl rfl ?_
      refine run_nil ?_
      refine at_tn ?_
      refine at_ret ?_
      refine at_end2 rfl (res_tmp rfl) (res_tmp rfl) (fun w hL => ⟨(), ?_, hL.picks [] trivial rfl rfl⟩)
      rw [if_pos h8, decide_eq_true h8]; simp

set_option maxRecDepth 20000 in
theorem c_ref02_large (n : Nat) (hn : n ≤ 9223372036854775807) : SCall Tryz.prog 125 [] [.int .i64 (n : Nat)] (SR (nb n)) SR.v (fun x => [⟨x.b, 3, NV .i64 (D8 n), x.n, true⟩]) := by
  refine ⟨by kernel_rfl, fun w hL0 => ?_⟩
  have hnb : nb n ≤ 8 := nb_le (by omega)
  refine calls_at (args := [.int .i64 (n : Nat)]) Tryz.func125 rfl (Nat.le_of_ble_eq_true rfl) hL0 ?_
  show At w ⟨14, [(0, .int .i64 (n : Nat))], []⟩ _
  refine at_seq ?_
  refine at_region ?_
  refine r_assign rfl rfl rfl ?_
  refine run_nil ?_
  refine at_tn ?_
  refine at_seq ?_
  refine at_region ?_
  refine r_assign rfl rfl rfl ?_
  refine run_nil ?_
  refine at_tn ?_
  refine at_seq ?_
  refine at_block ?_
  refine enterL (nt := 14) (ι := {x : Nat × Option Nat × Nat × Nat // x.1 ≤ nb n ∧ x.1 ≤ x.2.2.2 ∧ x.2.2.2 ≤ x.2.2.1}) (fun ⟨⟨i, ob, oN, oc⟩, hi, h1, h2⟩ => [(0, .int .i64 (n / 256 ^ i : Nat)), (3, slv ob 0 i oc)]) (fun ⟨⟨i, ob, oN, oc⟩, hi, h1, h2⟩ => [⟨ob, 3, NV .i64 (row i (dg8 n)), oN, true⟩]) (fun ⟨⟨i, ob, oN, oc⟩, hi, h1, h2⟩ => nb n - i) ⟨(0, none, 0, 0), Nat.zero_le _, Nat.le_refl _, Nat.le_refl _⟩ ⟨(look_val rfl (by rw [Nat.pow_zero, Nat.div_one])), rfl, trivial⟩ (weak_picks [none] ⟨⟨rfl, rfl, rfl⟩, trivial⟩ rfl rfl) ?_
  rintro ⟨⟨i, ob, oN, oc⟩, hi, h1, h2⟩
  show At _ ⟨14, [(0, .int .i64 (n / 256 ^ i : Nat)), (3, slv ob 0 i oc)], [⟨ob, 3, NV .i64 (row i (dg8 n)), oN, true⟩]⟩ _
  replace hi : i ≤ nb n := hi
  replace h1 : i ≤ oc := h1
  replace h2 : oc ≤ oN := h2
  refine at_seq ?_
  refine at_seq ?_
  refine at_region ?_
  refine r_move rfl rfl rfl ?_
  refine r_cmpInt rfl rfl rfl rfl rfl ?_
  refine run_nil ?_
  refine at_tn ?_
  refine at_cond rfl (fun hb1 => ?_) (fun hb1 => ?_)
  ·
    have hgt : 0 < n / 256 ^ i := by have := of_decide_eq_true hb1; omega
    have hlt := div_le_nb hgt
    have hle : n / 256 ^ i ≤ n := Nat.div_le_self _ _
    refine at_skip ?_
    refine at_tn ?_
    refine at_block ?_
    refine at_seq ?_
    refine at_region ?_
    refine r_move rfl rfl rfl ?_
    refine r_move rfl rfl rfl ?_
    refine r_div (r := ((dg8 n i : Nat) : Int)) rfl rfl rfl rfl (by omega) (congrArg some (rem_n _ 256 rfl rfl)) ?_
    refine r_buildSlice [(0, _)] (fun g => [_, ⟨some g, 3, _, 1, true⟩]) rfl rfl rfl (bs85_1) rfl (fun _ => rfl) (fun g0 => ?_)
    refine q_append (s := 1) (len := i) (n2 := 1) 0 1 (fun r => [⟨some r.g, 3, NV .i64 (row (i + 1) (dg8 n)), r.n, true⟩, ⟨some g0, 3, _, 1, true⟩]) u85 el3 rfl rfl rfl rfl rfl rfl rfl rfl rfl rfl rfl rfl (by rw [NV_length, row_length]; omega) (by omega) (by show oc * 1 ≤ oN; omega) rfl (one_cell _ _) (by omega) (fun r => congrArg (fun c => [(⟨some r.g, 3, c, r.n, true⟩ : Blk), ⟨some g0, 3, _, 1, true⟩]) (NV_snoc _ _ _ _ (rfl))) (fun r => ?_)
    refine r_assign rfl rfl rfl ?_
    refine run_nil ?_
    refine at_tn ?_
    refine at_region ?_
    refine r_move rfl rfl rfl ?_
    refine r_div (r := ((n / 256 ^ (i + 1) : Nat) : Int)) rfl rfl rfl rfl (by omega) (congrArg some ((quo_i _ 256 rfl rfl (by omega)).trans (by rw [div256]))) ?_
    refine r_assign rfl rfl rfl ?_
    refine run_nil ?_
    refine at_bn ?_
    refine at_tn ?_
    exact nextL ⟨(i + 1, some r.g, r.n, r.cap), hlt, r.h, by have := r.hn; show r.cap ≤ r.n; omega⟩ (by show nb n - (i + 1) < nb n - i; omega) ⟨rfl, rfl, trivial⟩ (weak_picks [some 0] ⟨⟨_, rfl, Blk.le_refl _⟩, trivial⟩ rfl rfl)
  ·
    have hge := nb_of_div (n := n) (i := i) (by have := of_decide_eq_false hb1; have := Nat.zero_le (n / 256 ^ i); omega) hi
    subst hge
    refine at_exit ?_
    refine at_te ?_
    refine at_te ?_
    refine at_be ?_
    refine at_tn ?_
    refine at_seq ?_
    refine at_region ?_
    refine r_move rfl rfl rfl ?_
    refine r_assign rfl rfl rfl ?_
    refine run_nil ?_
    refine at_tn ?_
    refine at_ret ?_
    refine at_end1 rfl (res_tmp rfl) (fun w hL => ⟨⟨ob, oN, oc, h1⟩, rfl, ?_⟩)
    rw [D8_row] at hL; exact hL

set_option maxRecDepth 20000 in
theorem c_ref02_digits (z : Int) (hz : szI z ≤ 1073741824) : SCall Tryz.prog 84 [] [I z] (SR (nb z.natAbs)) SR.v (fun x => [⟨x.b, 3, NV .i64 (D8 z.natAbs), x.n, true⟩]) := by
  refine ⟨by kernel_rfl, fun w hL0 => ?_⟩
  have hz : nb z.natAbs ≤ 1073741824 := hz
  refine calls_at (args := [I z]) Tryz.func84 rfl (Nat.le_of_ble_eq_true rfl) hL0 ?_
  show At w ⟨23, [(0, I z)], []⟩ _
  refine at_seq ?_
  refine at_region ?_
  refine r_box [_, _] 2 (fun g => [⟨some g, 23, _, 2, true⟩]) rfl rfl rfl rfl rfl (fun _ => rfl) (fun g0 => ?_)
  refine r_assign rfl rfl rfl ?_
  refine run_nil ?_
  refine at_tn ?_
  refine at_seq ?_
  refine at_region ?_
  refine r_assign rfl rfl rfl ?_
  refine run_nil ?_
  refine at_tn ?_
  refine at_seq ?_
  refine at_seq ?_
  refine at_region ?_
  refine r_fieldAddr 0 0 1 rfl rfl rfl rfl rfl ti23 rfl rfl ?_
  refine r_load 0 1 [_] rfl rfl rfl rfl ti9 rfl rfl rfl rfl ?_
  refine r_len rfl u9 rfl rfl ?_
  refine r_know 7 (.int .i64 (nb z.natAbs : Nat)) rfl (by rw [mag_size]) ?_
  refine r_arith (r := ((nb z.natAbs : Nat) : Int) - 1) rfl rfl rfl rfl (congrArg some (wi (by omega) (by omega) (by omega))) ?_
  refine r_assign rfl rfl rfl ?_
  refine run_nil ?_
  refine at_tn ?_
  refine at_block ?_
  refine enterL (nt := 23) (ι := {x : Nat × Option Nat × Nat × Nat // x.1 ≤ nb z.natAbs ∧ x.1 ≤ x.2.2.2 ∧ x.2.2.2 ≤ x.2.2.1}) (fun ⟨⟨k, ob, oN, oc⟩, hk, h1, h2⟩ => [(1, .pointer (some ⟨g0, 0, none⟩)), (3, slv ob 0 k oc), (4, .int .i64 ((nb z.natAbs - k : Nat) - 1))]) (fun ⟨⟨k, ob, oN, oc⟩, hk, h1, h2⟩ => [⟨some g0, 23, [.bool (decide (z < 0)), .string (mag z.natAbs)], 2, true⟩, ⟨ob, 3, NV .i64 (row k (dg8 z.natAbs)), oN, true⟩]) (fun ⟨⟨k, ob, oN, oc⟩, hk, h1, h2⟩ => nb z.natAbs - k) ⟨(0, none, 0, 0), Nat.zero_le _, Nat.le_refl _, Nat.le_refl _⟩ ⟨rfl, rfl, rfl, trivial⟩ (weak_picks [some 0, none] ⟨⟨_, rfl, Blk.le_refl _⟩, ⟨rfl, rfl, rfl⟩, trivial⟩ rfl rfl) ?_
  rintro ⟨⟨k, ob, oN, oc⟩, hk, h1, h2⟩
  show At _ ⟨23, [(1, .pointer (some ⟨g0, 0, none⟩)), (3, slv ob 0 k oc), (4, .int .i64 ((nb z.natAbs - k : Nat) - 1))], [⟨some g0, 23, [.bool (decide (z < 0)), .string (mag z.natAbs)], 2, true⟩, ⟨ob, 3, NV .i64 (row k (dg8 z.natAbs)), oN, true⟩]⟩ _
  replace hk : k ≤ nb z.natAbs := hk
  replace h1 : k ≤ oc := h1
  replace h2 : oc ≤ oN := h2
  refine at_seq ?_
  refine at_seq ?_
  refine at_region ?_
  refine r_move rfl rfl rfl ?_
  refine r_cmpInt rfl rfl rfl rfl rfl ?_
  refine run_nil ?_
  refine at_tn ?_
  refine at_cond rfl (fun hb1 => ?_) (fun hb1 => ?_)
  ·
    have hlt : k < nb z.natAbs := by have := of_decide_eq_true hb1; omega
    refine at_know 4 (.int .i64 (nb z.natAbs - 1 - k : Nat)) rfl (congrArg (Value.int .i64) (by omega)) ?_
    refine at_skip ?_
    refine at_tn ?_
    refine at_seq ?_
    refine at_block ?_
    refine at_region ?_
    refine r_move rfl rfl rfl ?_
    refine r_fieldAddr 0 0 1 rfl rfl rfl rfl rfl ti23 rfl rfl ?_
    refine r_load 0 1 [_] rfl rfl rfl rfl ti9 rfl rfl rfl rfl ?_
    refine r_move rfl rfl rfl ?_
    refine r_idxS (b := UInt8.ofNat (z.natAbs / 256 ^ k % 256)) (r := ((z.natAbs / 256 ^ k % 256 : Nat) : Int)) u9 rfl rfl rfl rfl (by omega) (mag_at' z.natAbs k hlt) (u8_nat _) ?_
    refine r_conv (r := ((dg8 z.natAbs k : Nat) : Int)) u5 u3 rfl rfl rfl (wi (by have := dg8_lt z.natAbs k; omega) (by have := dg8_lt z.natAbs k; omega) rfl) ?_
    refine r_buildSlice [(0, _)] (fun g => [_, _, ⟨some g, 3, _, 1, true⟩]) rfl rfl rfl (bs85_1) rfl (fun _ => rfl) (fun g1 => ?_)
    refine q_append (s := 1) (len := k) (n2 := 1) 1 2 (fun r => [_, ⟨some r.g, 3, NV .i64 (row (k + 1) (dg8 z.natAbs)), r.n, true⟩, ⟨some g1, 3, _, 1, true⟩]) u85 el3 rfl rfl rfl rfl rfl rfl rfl rfl rfl rfl rfl rfl (by rw [NV_length, row_length]; omega) (by omega) (by show oc * 1 ≤ oN; omega) rfl (one_cell _ _) (by omega) (fun r => congrArg (fun c => [_, (⟨some r.g, 3, c, r.n, true⟩ : Blk), ⟨some g1, 3, _, 1, true⟩]) (NV_snoc _ _ _ _ (rfl))) (fun r => ?_)
    refine r_assign rfl rfl rfl ?_
    refine run_nil ?_
    refine at_bn ?_
    refine at_tn ?_
    refine at_region ?_
    refine r_move rfl rfl rfl ?_
    refine r_arith (r := ((nb z.natAbs - (k + 1) : Nat) : Int) - 1) rfl rfl rfl rfl (congrArg some (wi (by omega) (by omega) (by omega))) ?_
    refine r_assign rfl rfl rfl ?_
    refine run_nil ?_
    refine at_tn ?_
    exact nextL ⟨(k + 1, some r.g, r.n, r.cap), hlt, r.h, by have := r.hn; show r.cap ≤ r.n; omega⟩ (by show nb z.natAbs - (k + 1) < nb z.natAbs - k; omega) ⟨rfl, rfl, rfl, trivial⟩ (weak_picks [some 0, some 1] ⟨⟨_, rfl, Blk.le_refl _⟩, ⟨_, rfl, Blk.le_refl _⟩, trivial⟩ rfl rfl)
  ·
    have hge : k = nb z.natAbs := by have := of_decide_eq_false hb1; omega
    subst hge
    refine at_exit ?_
    refine at_te ?_
    refine at_te ?_
    refine at_be ?_
    refine at_tn ?_
    refine at_seq ?_
    refine at_region ?_
    refine r_move rfl rfl rfl ?_
    refine r_scall0 [_] [1] rfl rfl rfl (c_ref02_trim (row (nb z.natAbs) (dg8 z.natAbs)) (row_lt fun j => dg8_lt _ j) (by rw [row_length]; omega) (row_length _ _) ⟨ob, oN, oc, h1⟩) ⟨⟨_, rfl, le_share⟩, trivial⟩ rfl ?_
    refine r_know 22 (slv ob 0 (nb z.natAbs) oc) rfl (by rw [D8_row_trim]) ?_
    refine r_assign rfl rfl rfl ?_
    refine run_nil ?_
    refine at_tn ?_
    refine at_ret ?_
    refine at_end1 rfl (res_tmp rfl) (fun w hL => ⟨⟨ob, oN, oc, h1⟩, rfl, ?_⟩)
    rw [D8_row] at hL; exact hL.picks [some 1] ⟨⟨_, rfl, Blk.le_refl _⟩, trivial⟩ rfl rfl

set_option maxRecDepth 20000 in
theorem c_ref02_whole (n : Nat) (neg : Bool) (hn : nb n ≤ 1073741824) (x : SR (nb n)) : SCall Tryz.prog 104 [⟨x.b, 3, NV .i64 (D8 n), x.n, false⟩] [x.v, .bool neg] Unit (fun _ => I (if neg = true then -(n : Int) else (n : Int))) (fun _ => []) := by
  refine ⟨by kernel_rfl, fun w hL0 => ?_⟩
  refine calls_at (args := [x.v, .bool neg]) Tryz.func104 rfl (Nat.le_of_ble_eq_true rfl) hL0 ?_
  show At w ⟨39, [(0, x.v), (1, .bool neg)], [⟨x.b, 3, NV .i64 (D8 n), x.n, false⟩]⟩ _
  refine at_seq ?_
  refine at_region ?_
  refine r_alloc [_, _] 2 (fun g => [_, ⟨some g, 23, _, 2, true⟩]) rfl rfl z23 rfl rfl (fun _ => rfl) (fun g0 => ?_)
  refine run_nil ?_
  refine at_tn ?_
  refine at_seq ?_
  refine at_region ?_
  refine r_move rfl rfl rfl ?_
  refine r_scall0 [_] [0] rfl rfl rfl (c_ref02_trim (D8 n) (D8_lt n) (by rw [D8_length]; omega) (D8_length n) x) ⟨⟨_, rfl, le_share⟩, trivial⟩ rfl ?_
  refine r_know 8 (slv x.b 0 (nb n) x.cap) rfl (by rw [D8_trim_len]) ?_
  refine r_assign rfl rfl rfl ?_
  refine run_nil ?_
  refine at_tn ?_
  refine at_seq ?_
  refine at_region ?_
  refine r_move rfl rfl rfl ?_
  refine r_lenS u85 rfl rfl rfl ?_
  refine q_makeSlice (c := nb n) (NV .u8 (row (nb n) (bytT n (nb n) 0))) (fun g => [_, _, ⟨some g, 5, _, _, true⟩]) u116 el5 rfl rfl rfl rfl rfl rfl (by omega) (by rw [row_congr (g := fun _ => 0) (fun j _ => bytT_zero n _ j), row_zero, NV_replicate]) (fun _ => rfl) (fun g1 => ?_)
  refine r_assign rfl rfl rfl ?_
  refine run_nil ?_
  refine at_tn ?_
  refine at_seq ?_
  refine at_seq ?_
  refine at_region ?_
  refine r_assign rfl rfl rfl ?_
  refine run_nil ?_
  refine at_tn ?_
  refine at_block ?_
  refine enterL (nt := 39) (ι := {i : Nat // i ≤ nb n}) (fun ⟨i, hi⟩ => [(0, slv x.b 0 (nb n) x.cap), (1, .bool neg), (4, .pointer (some ⟨g0, 0, none⟩)), (5, slv (some g1) 0 (nb n) (nb n)), (6, .int .i64 (i : Nat))]) (fun ⟨i, hi⟩ => [⟨x.b, 3, NV .i64 (D8 n), x.n, false⟩, ⟨some g0, 23, [.bool false, .string ⟨#[]⟩], 2, true⟩, ⟨some g1, 5, NV .u8 (row (nb n) (bytT n (nb n) i)), nb n, true⟩]) (fun ⟨i, hi⟩ => nb n - i) ⟨0, Nat.zero_le _⟩ ⟨rfl, rfl, rfl, rfl, rfl, trivial⟩ (Weak.refl _) ?_
  rintro ⟨i, hi⟩
  show At _ ⟨39, [(0, slv x.b 0 (nb n) x.cap), (1, .bool neg), (4, .pointer (some ⟨g0, 0, none⟩)), (5, slv (some g1) 0 (nb n) (nb n)), (6, .int .i64 (i : Nat))], [⟨x.b, 3, NV .i64 (D8 n), x.n, false⟩, ⟨some g0, 23, [.bool false, .string ⟨#[]⟩], 2, true⟩, ⟨some g1, 5, NV .u8 (row (nb n) (bytT n (nb n) i)), nb n, true⟩]⟩ _
  refine at_seq ?_
  refine at_seq ?_
  refine at_region ?_
  refine r_move rfl rfl rfl ?_
  refine r_move rfl rfl rfl ?_
  refine r_lenS u85 rfl rfl rfl ?_
  refine r_cmpInt rfl rfl rfl rfl rfl ?_
  refine run_nil ?_
  refine at_tn ?_
  refine at_cond rfl (fun hb1 => ?_) (fun hb1 => ?_)
  ·
    have hlt : i < nb n := (by have := of_decide_eq_true hb1; omega)
    refine at_skip ?_
    refine at_tn ?_
    refine at_seq ?_
    refine at_block ?_
    refine at_region ?_
    refine r_move rfl rfl rfl ?_
    refine r_move rfl rfl rfl ?_
    refine r_lenS u85 rfl rfl rfl ?_
    refine r_arith (r := ((nb n - 1 : Nat) : Int)) rfl rfl rfl rfl (congrArg some (wi (by omega) (by omega) (by omega))) ?_
    refine r_move rfl rfl rfl ?_
    refine r_arith (r := ((nb n - 1 - i : Nat) : Int)) rfl rfl rfl rfl (congrArg some (wi (by omega) (by omega) (by omega))) ?_
    refine r_move rfl rfl rfl ?_
    refine r_move rfl rfl rfl ?_
    refine r_indexAddr 0 (i) u85 ti3 rfl rfl rfl rfl rfl (by omega) (by omega) (NV_ne (by rw [D8_length]; omega)) (by show 0 + Int.toNat _ * 1 = _; omega) ?_
    refine r_load1 0 (i) ti3 rfl rfl rfl rfl (NV_get (D8_get (by omega))) ?_
    refine r_conv (r := ((n / 256 ^ i % 256 : Nat) : Int)) u3 u5 rfl rfl rfl ((c8 _ rfl).trans (by rw [Nat.mod_mod])) ?_
    refine r_indexAddr 2 (nb n - 1 - i) u116 ti5 rfl rfl rfl rfl rfl (by omega) (by omega) (NV_ne (by rw [row_length]; omega)) (by show 0 + Int.toNat _ * 1 = _; omega) ?_
    refine r_store1 rfl 2 (nb n - 1 - i) [_, _, ⟨some g1, 5, _, _, true⟩] (NV .u8 (row (nb n) (bytT n (nb n) (i + 1)))) ti5 rfl rfl rfl rfl rfl rfl rfl rfl (by rw [NV_length, row_length]; omega) (bytT_step n (nb n) i _ hlt rfl) rfl ?_
    refine run_nil ?_
    refine at_bn ?_
    refine at_tn ?_
    refine at_region ?_
    refine r_move rfl rfl rfl ?_
    refine r_arith (r := ((i + 1 : Nat) : Int)) rfl rfl rfl rfl (congrArg some (wi (by omega) (by omega) (by omega))) ?_
    refine r_assign rfl rfl rfl ?_
    refine run_nil ?_
    refine at_tn ?_
    exact nextL ⟨i + 1, hlt⟩ (by simp only []; omega) ⟨rfl, rfl, rfl, rfl, rfl, trivial⟩ (Weak.refl _)
  ·
    have hge : i = nb n := (by have := of_decide_eq_false hb1; omega)
    subst hge
    refine at_exit ?_
    refine at_te ?_
    refine at_te ?_
    refine at_be ?_
    refine at_tn ?_
    refine at_seq ?_
    refine at_region ?_
    refine r_move rfl rfl rfl ?_
    refine r_move rfl rfl rfl ?_
    refine r_split 31 rfl (fun hb2 => ?_) (fun hb2 => ?_)
    ·
      refine r_move rfl rfl rfl ?_
      refine r_lenS u85 rfl rfl rfl ?_
      refine r_cmpInt rfl rfl rfl rfl rfl ?_
      refine r_pickT rfl rfl rfl rfl ?_
      refine r_move rfl rfl rfl ?_
      refine r_convBS 2 u116 u5 u9 rfl rfl rfl rfl rfl (by rw [List.take_of_length_le (by rw [NV_length, row_length]; exact Nat.le_refl _), bytT_rev]) (by rw [List.length_reverse]; rfl) (strN_mag n) ?_
      refine r_build [(0, _), (1, _)] rfl rfl rfl (bd23_2) ?_
      refine r_store rfl 1 0 [_, ⟨some g0, 23, _, 2, true⟩, _] [_, _] rfl rfl rfl rfl ti23 rfl rfl rfl rfl rfl ?_
      refine run_nil ?_
      refine at_tn ?_
      refine at_ret ?_
      refine at_end1 rfl (res_cell 1 rfl rfl ti23 (vs := [_, _]) rfl rfl (Nat.le_of_ble_eq_true rfl) rfl) (fun w hL => ⟨(), ?_, hL.picks [] trivial rfl rfl⟩)
      exact congrArg Ending.returned (whole_T n hb2)
    ·
      refine r_no rfl rfl rfl ?_
      refine r_no rfl rfl rfl ?_
      refine r_no rfl rfl rfl ?_
      refine r_pickF rfl rfl rfl rfl ?_
      refine r_move rfl rfl rfl ?_
      refine r_convBS 2 u116 u5 u9 rfl rfl rfl rfl rfl (by rw [List.take_of_length_le (by rw [NV_length, row_length]; exact Nat.le_refl _), bytT_rev]) (by rw [List.length_reverse]; rfl) (strN_mag n) ?_
      refine r_build [(0, _), (1, _)] rfl rfl rfl (bd23_2) ?_
      refine r_store rfl 1 0 [_, ⟨some g0, 23, _, 2, true⟩, _] [_, _] rfl rfl rfl rfl ti23 rfl rfl rfl rfl rfl ?_
      refine run_nil ?_
      refine at_tn ?_
      refine at_ret ?_
      refine at_end1 rfl (res_cell 1 rfl rfl ti23 (vs := [_, _]) rfl rfl (Nat.le_of_ble_eq_true rfl) rfl) (fun w hL => ⟨(), ?_, hL.picks [] trivial rfl rfl⟩)
      exact congrArg Ending.returned (whole_F n hb2)

end Go.Proofs.YthnlafhnpphdhaaGreatDoor
set_option linter.unusedVariables false
namespace Go.Via
open Go
theorem p256_pos (i : Nat) : 0 < 256 ^ i := Nat.pow_pos (by omega)
theorem m256 (n : Nat) : n % 256 < 256 := Nat.mod_lt _ (by omega)
def ad8S (X Y i : Nat) : Nat := (X % 256 ^ i + Y % 256 ^ i) / 256 ^ i + X / 256 ^ i % 256 + Y / 256 ^ i % 256
def ad8C (X Y i : Nat) : Nat := (X % 256 ^ i + Y % 256 ^ i) / 256 ^ i
theorem ad8C_le (X Y i : Nat) : ad8C X Y i ≤ 1 := by
  unfold ad8C
  have h1 := Nat.mod_lt X (p256_pos i)
  have h2 := Nat.mod_lt Y (p256_pos i)
  have : (X % 256 ^ i + Y % 256 ^ i) / 256 ^ i < 2 := by rw [Nat.div_lt_iff_lt_mul (p256_pos i)]; omega
  omega
theorem ad8C_zero (X Y : Nat) : ad8C X Y 0 = 0 := by simp [ad8C, Nat.mod_one]
theorem ad8S_eq (X Y i : Nat) : ad8S X Y i = ad8C X Y i + X / 256 ^ i % 256 + Y / 256 ^ i % 256 := rfl
theorem ad8S_lt (X Y i : Nat) : ad8S X Y i < 512 := by
  have := ad8C_le X Y i
  have h1 := m256 (X / 256 ^ i)
  have h2 := m256 (Y / 256 ^ i)
  rw [ad8S_eq]; omega
theorem ad8S_carry (X Y i : Nat) : ad8S X Y i / 256 = ad8C X Y (i + 1) := by
  show _ / 256 = _
  unfold ad8S ad8C
  rw [Nat.pow_succ, Nat.mod_mul, Nat.mod_mul, ← Nat.div_div_eq_div_mul]
  congr 1
  have e : X % 256 ^ i + 256 ^ i * (X / 256 ^ i % 256) + (Y % 256 ^ i + 256 ^ i * (Y / 256 ^ i % 256)) = (X % 256 ^ i + Y % 256 ^ i) + 256 ^ i * (X / 256 ^ i % 256 + Y / 256 ^ i % 256) := by rw [Nat.mul_add]; omega
  rw [e, Nat.add_mul_div_left _ _ (p256_pos i)]
  omega
theorem ad8S_low (X Y i : Nat) : ad8S X Y i % 256 = (X + Y) / 256 ^ i % 256 := by
  show _ % 256 = _
  have e : X + Y = (X % 256 ^ i + Y % 256 ^ i) + 256 ^ i * (X / 256 ^ i + Y / 256 ^ i) := by
    have h1 := Nat.mod_add_div X (256 ^ i)
    have h2 := Nat.mod_add_div Y (256 ^ i)
    rw [Nat.mul_add]; omega
  conv => rhs; rw [e]
  rw [Nat.add_mul_div_left _ _ (p256_pos i)]
  unfold ad8S
  generalize (X % 256 ^ i + Y % 256 ^ i) / 256 ^ i = c
  generalize X / 256 ^ i = p
  generalize Y / 256 ^ i = q
  rw [Nat.add_assoc, Nat.add_mod, ← Nat.add_mod p q, ← Nat.add_mod]
def su8B (m n i : Nat) : Nat := if m % 256 ^ i < n % 256 ^ i then 1 else 0
theorem su8B_zero (m n : Nat) : su8B m n 0 = 0 := by simp [su8B, Nat.mod_one]
theorem su8B_le (m n i : Nat) : su8B m n i ≤ 1 := by unfold su8B; split <;> omega
theorem su8_div {m n i : Nat} (h : n ≤ m) : (m - n) / 256 ^ i + n / 256 ^ i + su8B m n i = m / 256 ^ i := by
  have h1 := Nat.mod_add_div m (256 ^ i)
  have h2 := Nat.mod_add_div n (256 ^ i)
  have h3 := Nat.mod_lt m (p256_pos i)
  have h4 := Nat.mod_lt n (p256_pos i)
  have hp := p256_pos i
  generalize hP : 256 ^ i = P at *
  generalize m / P = M at *
  generalize n / P = N at *
  unfold su8B
  rw [hP]
  split
  · rename_i hlt
    have hMN : N + 1 ≤ M := by
      by_cases c : M ≤ N
      · have := Nat.mul_le_mul_left P c; omega
      · omega
    obtain ⟨k, rfl⟩ : ∃ k, M = N + 1 + k := ⟨M - (N + 1), by omega⟩
    have e : m - n = (m % P + P - n % P) + P * k := by
      rw [Nat.mul_add, Nat.mul_add] at h1; omega
    rw [e, Nat.add_mul_div_left _ _ hp, Nat.div_eq_of_lt (by omega)]; omega
  · rename_i hge
    have hMN : N ≤ M := by
      by_cases c : M < N
      · have := Nat.mul_le_mul_left P c; rw [Nat.mul_succ] at this; omega
      · omega
    obtain ⟨k, rfl⟩ : ∃ k, M = N + k := ⟨M - N, by omega⟩
    have e : m - n = (m % P - n % P) + P * k := by
      rw [Nat.mul_add] at h1; omega
    rw [e, Nat.add_mul_div_left _ _ hp, Nat.div_eq_of_lt (by omega)]; omega
theorem su8B_succ (m n i : Nat) : su8B m n (i + 1) = if m / 256 ^ i % 256 < n / 256 ^ i % 256 + su8B m n i then 1 else 0 := by
  unfold su8B
  rw [Nat.pow_succ, Nat.mod_mul, Nat.mod_mul]
  have h3 := Nat.mod_lt m (p256_pos i)
  have h4 := Nat.mod_lt n (p256_pos i)
  generalize m / 256 ^ i % 256 = x
  generalize n / 256 ^ i % 256 = y
  generalize hP : 256 ^ i = P at *
  have key : (m % P + P * x < n % P + P * y) ↔ x < y + (if m % P < n % P then 1 else 0) := by
    rcases Nat.lt_trichotomy x y with c | c | c
    · have := Nat.mul_le_mul_left P c; rw [Nat.mul_succ] at this
      constructor <;> intro _ <;> omega
    · subst c; split <;> constructor <;> intro _ <;> omega
    · have := Nat.mul_le_mul_left P c; rw [Nat.mul_succ] at this
      split <;> constructor <;> intro _ <;> omega
  simp only [key]
theorem su8_neg {m n i : Nat} (h : n ≤ m) (hd : m / 256 ^ i % 256 < n / 256 ^ i % 256 + su8B m n i) : m / 256 ^ i % 256 + 256 = (m - n) / 256 ^ i % 256 + n / 256 ^ i % 256 + su8B m n i ∧ su8B m n (i + 1) = 1 := by
  refine ⟨?_, by rw [su8B_succ, if_pos hd]⟩
  have h1 := su8_div (i := i) h
  have h2 := su8B_le m n i
  omega
theorem su8_pos {m n i : Nat} (h : n ≤ m) (hd : ¬ m / 256 ^ i % 256 < n / 256 ^ i % 256 + su8B m n i) : m / 256 ^ i % 256 = (m - n) / 256 ^ i % 256 + n / 256 ^ i % 256 + su8B m n i ∧ su8B m n (i + 1) = 0 := by
  refine ⟨?_, by rw [su8B_succ, if_neg hd]⟩
  have h1 := su8_div (i := i) h
  have h2 := su8B_le m n i
  omega

theorem dg8_above {Y i : Nat} (h : nb Y ≤ i) : Y / 256 ^ i % 256 = 0 := by
  rw [Nat.div_eq_of_lt (Nat.lt_of_lt_of_le (lt_nb Y) (pow256_le h))]
/-- the sum's digits -/
theorem plus_val (a b i : Nat) (ha : nb a ≤ i) (hb : nb b ≤ i) (hc : ad8C a b i = 0) : a + b < 256 ^ i := by
  unfold ad8C at hc
  rw [Nat.mod_eq_of_lt (Nat.lt_of_lt_of_le (lt_nb a) (pow256_le ha)), Nat.mod_eq_of_lt (Nat.lt_of_lt_of_le (lt_nb b) (pow256_le hb))] at hc
  exact (Nat.div_eq_zero_iff_lt (p256_pos i)).1 hc
theorem plus_more (a b i : Nat) (h : 0 < ad8C a b i) (ha : nb a ≤ i) (hb : nb b ≤ i) : i ≤ max (nb a) (nb b) := by
  rcases Nat.lt_or_ge (max (nb a) (nb b)) i with c | c
  · exfalso
    have h1 : a < 256 ^ (i - 1) := Nat.lt_of_lt_of_le (lt_nb a) (pow256_le (by omega))
    have h2 : b < 256 ^ (i - 1) := Nat.lt_of_lt_of_le (lt_nb b) (pow256_le (by omega))
    have h3 : 256 ^ i = 256 ^ (i - 1) * 256 := by rw [← Nat.pow_succ, show (i - 1).succ = i by omega]
    unfold ad8C at h
    rw [Nat.mod_eq_of_lt (by omega), Nat.mod_eq_of_lt (by omega), Nat.div_eq_of_lt (by omega)] at h
    omega
  · exact c
theorem row_val (N k : Nat) (h : N < 256 ^ k) : val 256 (row k (dg8 N)) = N := by
  unfold dg8; rw [val_row 256 (by omega), Nat.mod_eq_of_lt h]
theorem row_trim (N k : Nat) (h : N < 256 ^ k) : digs 256 (val 256 (row k (dg8 N))) = D8 N := by rw [row_val N k h]; rfl
theorem row_take (N k : Nat) (h : N < 256 ^ k) : NV .i64 (D8 N) = (NV .i64 (row k (dg8 N))).take (nb N) := by
  have := trim_take (B := 256) (by omega) (row_lt (n := k) (fun j => dg8_lt N j))
  rw [row_trim N k h] at this
  rw [NV_take]; congr 1; exact this.symm
end Go.Via
set_option linter.unusedVariables false
namespace Go.Proofs.YthnlafhnpphdhaaGreatDoor
open Go Go.RowKit Go.Via
set_option maxRecDepth 20000 in
theorem c_ref02_plus (a b : Nat) (ha : nb a ≤ 1073741000) (hb : nb b ≤ 1073741000) (x : SR (nb a)) (y : SR (nb b)) : SCall Tryz.prog 98 [⟨x.b, 3, NV .i64 (D8 a), x.n, false⟩, ⟨y.b, 3, NV .i64 (D8 b), y.n, false⟩] [x.v, y.v] (SR (nb (a + b))) SR.v (fun x => [⟨x.b, 3, NV .i64 (D8 (a + b)), x.n, true⟩]) := by
  refine ⟨by kernel_rfl, fun w hL0 => ?_⟩
  refine calls_at (args := [x.v, y.v]) Tryz.func98 rfl (Nat.le_of_ble_eq_true rfl) hL0 ?_
  show At w ⟨53, [(0, x.v), (1, y.v)], [⟨x.b, 3, NV .i64 (D8 a), x.n, false⟩, ⟨y.b, 3, NV .i64 (D8 b), y.n, false⟩]⟩ _
  refine at_seq ?_
  refine at_region ?_
  refine r_assign rfl rfl rfl ?_
  refine run_nil ?_
  refine at_tn ?_
  refine at_seq ?_
  refine at_region ?_
  refine r_assign rfl rfl rfl ?_
  refine run_nil ?_
  refine at_tn ?_
  refine at_seq ?_
  refine at_region ?_
  refine r_assign rfl rfl rfl ?_
  refine run_nil ?_
  refine at_tn ?_
  refine at_seq ?_
  refine at_seq ?_
  refine at_region ?_
  refine r_assign rfl rfl rfl ?_
  refine run_nil ?_
  refine at_tn ?_
  refine at_block ?_
  refine enterL (nt := 53) (ι := {x : Nat × Option Nat × Nat × Nat // x.1 ≤ max (nb a) (nb b) + 1 ∧ x.1 ≤ x.2.2.2 ∧ x.2.2.2 ≤ x.2.2.1}) (fun ⟨⟨i, ob, oN, oc⟩, hi, h1, h2⟩ => [(0, x.v), (1, y.v), (5, slv ob 0 i oc), (6, .int .i64 (ad8C a b i : Nat)), (7, .int .i64 (i : Nat))]) (fun ⟨⟨i, ob, oN, oc⟩, hi, h1, h2⟩ => [⟨x.b, 3, NV .i64 (D8 a), x.n, false⟩, ⟨y.b, 3, NV .i64 (D8 b), y.n, false⟩, ⟨ob, 3, NV .i64 (row i (dg8 (a + b))), oN, true⟩]) (fun ⟨⟨i, ob, oN, oc⟩, hi, h1, h2⟩ => max (nb a) (nb b) + 1 - i) ⟨(0, none, 0, 0), Nat.zero_le _, Nat.le_refl _, Nat.le_refl _⟩ ⟨rfl, rfl, rfl, (look_val rfl (by rw [ad8C_zero]; rfl)), rfl, trivial⟩ (weak_picks [some 0, some 1, none] ⟨⟨_, rfl, Blk.le_refl _⟩, ⟨_, rfl, Blk.le_refl _⟩, ⟨rfl, rfl, rfl⟩, trivial⟩ rfl rfl) ?_
  rintro ⟨⟨i, ob, oN, oc⟩, hi, h1, h2⟩
  show At _ ⟨53, [(0, x.v), (1, y.v), (5, slv ob 0 i oc), (6, .int .i64 (ad8C a b i : Nat)), (7, .int .i64 (i : Nat))], [⟨x.b, 3, NV .i64 (D8 a), x.n, false⟩, ⟨y.b, 3, NV .i64 (D8 b), y.n, false⟩, ⟨ob, 3, NV .i64 (row i (dg8 (a + b))), oN, true⟩]⟩ _
  replace hi : i ≤ max (nb a) (nb b) + 1 := hi
  replace h1 : i ≤ oc := h1
  replace h2 : oc ≤ oN := h2
  refine at_seq ?_
  refine at_seq ?_
  refine at_region ?_
  refine r_move rfl rfl rfl ?_
  refine r_move rfl rfl rfl ?_
  refine r_lenS u85 rfl rfl rfl ?_
  refine r_cmpInt rfl rfl rfl rfl rfl ?_
  refine r_move rfl rfl rfl ?_
  refine r_split 12 rfl (fun hb1 => ?_) (fun hb1 => ?_)
  ·
    have hia : i < nb a := (by have := of_decide_eq_true hb1; omega)
    have hmx : i ≤ max (nb a) (nb b) := by omega
    refine r_no rfl rfl rfl ?_
    refine r_no rfl rfl rfl ?_
    refine r_no rfl rfl rfl ?_
    refine r_no rfl rfl rfl ?_
    refine r_pickT rfl rfl rfl rfl ?_
    refine r_move rfl rfl rfl ?_
    refine r_no rfl rfl rfl ?_
    refine r_no rfl rfl rfl ?_
    refine r_pickT rfl rfl rfl rfl ?_
    refine run_nil ?_
    refine at_tn ?_
    refine at_condT rfl ?_
    refine at_skip ?_
    refine at_tn ?_
    refine at_seq ?_
    refine at_block ?_
    refine at_seq ?_
    refine at_seq ?_
    refine at_region ?_
    refine r_move rfl rfl rfl ?_
    refine r_move rfl rfl rfl ?_
    refine r_lenS u85 rfl rfl rfl ?_
    refine r_cmpInt rfl rfl rfl rfl rfl ?_
    refine run_nil ?_
    refine at_tn ?_
    refine at_cond rfl (fun hb2 => ?_) (fun hb2 => ?_)
    ·
      have hja : i < nb a := (by have := of_decide_eq_true hb2; omega)
      have hcl := ad8C_le a b i
      have hax := m256 (a / 256 ^ i)
      have hbx := m256 (b / 256 ^ i)
      have hsl := ad8S_lt a b i
      refine at_region ?_
      refine r_move rfl rfl rfl ?_
      refine r_move rfl rfl rfl ?_
      refine r_move rfl rfl rfl ?_
      refine r_indexAddr 0 (i) u85 ti3 rfl rfl rfl rfl rfl (by omega) (by omega) (NV_ne (by rw [D8_length]; omega)) (by show 0 + Int.toNat _ * 1 = _; omega) ?_
      refine r_load1 0 (i) ti3 rfl rfl rfl rfl (NV_get (D8_get (by omega))) ?_
      refine r_arith (r := ((ad8C a b i + a / 256 ^ i % 256 : Nat) : Int)) rfl rfl rfl rfl (congrArg some (wi (by omega) (by omega) (by omega))) ?_
      refine r_assign rfl rfl rfl ?_
      refine run_nil ?_
      refine at_tn ?_
      refine at_seq ?_
      refine at_seq ?_
      refine at_region ?_
      refine r_move rfl rfl rfl ?_
      refine r_move rfl rfl rfl ?_
      refine r_lenS u85 rfl rfl rfl ?_
      refine r_cmpInt rfl rfl rfl rfl rfl ?_
      refine run_nil ?_
      refine at_tn ?_
      refine at_cond rfl (fun hb3 => ?_) (fun hb3 => ?_)
      ·
        have hjb : i < nb b := (by have := of_decide_eq_true hb3; omega)
        refine at_region ?_
        refine r_move rfl rfl rfl ?_
        refine r_move rfl rfl rfl ?_
        refine r_move rfl rfl rfl ?_
        refine r_indexAddr 1 (i) u85 ti3 rfl rfl rfl rfl rfl (by omega) (by omega) (NV_ne (by rw [D8_length]; omega)) (by show 0 + Int.toNat _ * 1 = _; omega) ?_
        refine r_load1 1 (i) ti3 rfl rfl rfl rfl (NV_get (D8_get (by omega))) ?_
        refine r_arith (r := ((ad8S a b i : Nat) : Int)) rfl rfl rfl rfl (congrArg some (wi (by omega) (by omega) (by rw [ad8S_eq]; omega))) ?_
        refine r_assign rfl rfl rfl ?_
        refine run_nil ?_
        refine at_tn ?_
        refine at_seq ?_
        refine at_region ?_
        refine r_move rfl rfl rfl ?_
        refine r_move rfl rfl rfl ?_
        refine r_div (r := ((dg8 (a + b) i : Nat) : Int)) rfl rfl rfl rfl (by omega) (congrArg some ((rem_n _ 256 rfl rfl).trans (by rw [ad8S_low]; rfl))) ?_
        refine r_buildSlice [(0, _)] (fun g => [_, _, _, ⟨some g, 3, _, 1, true⟩]) rfl rfl rfl (bs85_1) rfl (fun _ => rfl) (fun g0 => ?_)
        refine q_append (s := 1) (len := i) (n2 := 1) 2 3 (fun r => [_, _, ⟨some r.g, 3, NV .i64 (row (i + 1) (dg8 (a + b))), r.n, true⟩, ⟨some g0, 3, _, 1, true⟩]) u85 el3 rfl rfl rfl rfl rfl rfl rfl rfl rfl rfl rfl rfl (by rw [NV_length, row_length]; omega) (by omega) (by show oc * 1 ≤ oN; omega) rfl (one_cell _ _) (by omega) (fun r => congrArg (fun c => [_, _, (⟨some r.g, 3, c, r.n, true⟩ : Blk), ⟨some g0, 3, _, 1, true⟩]) (NV_snoc _ _ _ _ (rfl))) (fun r => ?_)
        refine r_assign rfl rfl rfl ?_
        refine run_nil ?_
        refine at_tn ?_
        refine at_region ?_
        refine r_move rfl rfl rfl ?_
        refine r_div (r := ((ad8C a b (i + 1) : Nat) : Int)) rfl rfl rfl rfl (by omega) (congrArg some ((quo_i _ 256 rfl rfl (by omega)).trans (by rw [ad8S_carry]))) ?_
        refine r_assign rfl rfl rfl ?_
        refine run_nil ?_
        refine at_bn ?_
        refine at_tn ?_
        refine at_region ?_
        refine r_move rfl rfl rfl ?_
        refine r_arith (r := ((i + 1 : Nat) : Int)) rfl rfl rfl rfl (congrArg some (wi (by omega) (by omega) (by omega))) ?_
        refine r_assign rfl rfl rfl ?_
        refine run_nil ?_
        refine at_tn ?_
        exact nextL ⟨(i + 1, some r.g, r.n, r.cap), Nat.succ_le_succ hmx, r.h, by have := r.hn; show r.cap ≤ r.n; omega⟩ (by show max (nb a) (nb b) + 1 - (i + 1) < max (nb a) (nb b) + 1 - i; omega) ⟨rfl, rfl, rfl, rfl, rfl, trivial⟩ (weak_picks [some 0, some 1, some 2] ⟨⟨_, rfl, Blk.le_refl _⟩, ⟨_, rfl, Blk.le_refl _⟩, ⟨_, rfl, Blk.le_refl _⟩, trivial⟩ rfl rfl)
      ·
        have hjb : nb b ≤ i := (by have := of_decide_eq_false hb3; omega)
        refine at_know 6 (.int .i64 (ad8S a b i : Nat)) rfl (by rw [ad8S_eq, dg8_above hjb]; rfl) ?_
        refine at_skip ?_
        refine at_tn ?_
        refine at_seq ?_
        refine at_region ?_
        refine r_move rfl rfl rfl ?_
        refine r_move rfl rfl rfl ?_
        refine r_div (r := ((dg8 (a + b) i : Nat) : Int)) rfl rfl rfl rfl (by omega) (congrArg some ((rem_n _ 256 rfl rfl).trans (by rw [ad8S_low]; rfl))) ?_
        refine r_buildSlice [(0, _)] (fun g => [_, _, _, ⟨some g, 3, _, 1, true⟩]) rfl rfl rfl (bs85_1) rfl (fun _ => rfl) (fun g0 => ?_)
        refine q_append (s := 1) (len := i) (n2 := 1) 2 3 (fun r => [_, _, ⟨some r.g, 3, NV .i64 (row (i + 1) (dg8 (a + b))), r.n, true⟩, ⟨some g0, 3, _, 1, true⟩]) u85 el3 rfl rfl rfl rfl rfl rfl rfl rfl rfl rfl rfl rfl (by rw [NV_length, row_length]; omega) (by omega) (by show oc * 1 ≤ oN; omega) rfl (one_cell _ _) (by omega) (fun r => congrArg (fun c => [_, _, (⟨some r.g, 3, c, r.n, true⟩ : Blk), ⟨some g0, 3, _, 1, true⟩]) (NV_snoc _ _ _ _ (rfl))) (fun r => ?_)
        refine r_assign rfl rfl rfl ?_
        refine run_nil ?_
        refine at_tn ?_
        refine at_region ?_
        refine r_move rfl rfl rfl ?_
        refine r_div (r := ((ad8C a b (i + 1) : Nat) : Int)) rfl rfl rfl rfl (by omega) (congrArg some ((quo_i _ 256 rfl rfl (by omega)).trans (by rw [ad8S_carry]))) ?_
        refine r_assign rfl rfl rfl ?_
        refine run_nil ?_
        refine at_bn ?_
        refine at_tn ?_
        refine at_region ?_
        refine r_move rfl rfl rfl ?_
        refine r_arith (r := ((i + 1 : Nat) : Int)) rfl rfl rfl rfl (congrArg some (wi (by omega) (by omega) (by omega))) ?_
        refine r_assign rfl rfl rfl ?_
        refine run_nil ?_
        refine at_tn ?_
        exact nextL ⟨(i + 1, some r.g, r.n, r.cap), Nat.succ_le_succ hmx, r.h, by have := r.hn; show r.cap ≤ r.n; omega⟩ (by show max (nb a) (nb b) + 1 - (i + 1) < max (nb a) (nb b) + 1 - i; omega) ⟨rfl, rfl, rfl, rfl, rfl, trivial⟩ (weak_picks [some 0, some 1, some 2] ⟨⟨_, rfl, Blk.le_refl _⟩, ⟨_, rfl, Blk.le_refl _⟩, ⟨_, rfl, Blk.le_refl _⟩, trivial⟩ rfl rfl)
    ·
      have hja : nb a ≤ i := (by have := of_decide_eq_false hb2; omega)
      have hcl := ad8C_le a b i
      have hax := m256 (a / 256 ^ i)
      have hbx := m256 (b / 256 ^ i)
      have hsl := ad8S_lt a b i
      refine at_know 6 (.int .i64 (ad8C a b i + a / 256 ^ i % 256 : Nat)) rfl (by rw [dg8_above hja]; rfl) ?_
      refine at_skip ?_
      refine at_tn ?_
      refine at_seq ?_
      refine at_seq ?_
      refine at_region ?_
      refine r_move rfl rfl rfl ?_
      refine r_move rfl rfl rfl ?_
      refine r_lenS u85 rfl rfl rfl ?_
      refine r_cmpInt rfl rfl rfl rfl rfl ?_
      refine run_nil ?_
      refine at_tn ?_
      refine at_cond rfl (fun hb3 => ?_) (fun hb3 => ?_)
      ·
        have hjb : i < nb b := (by have := of_decide_eq_true hb3; omega)
        refine at_region ?_
        refine r_move rfl rfl rfl ?_
        refine r_move rfl rfl rfl ?_
        refine r_move rfl rfl rfl ?_
        refine r_indexAddr 1 (i) u85 ti3 rfl rfl rfl rfl rfl (by omega) (by omega) (NV_ne (by rw [D8_length]; omega)) (by show 0 + Int.toNat _ * 1 = _; omega) ?_
        refine r_load1 1 (i) ti3 rfl rfl rfl rfl (NV_get (D8_get (by omega))) ?_
        refine r_arith (r := ((ad8S a b i : Nat) : Int)) rfl rfl rfl rfl (congrArg some (wi (by omega) (by omega) (by rw [ad8S_eq]; omega))) ?_
        refine r_assign rfl rfl rfl ?_
        refine run_nil ?_
        refine at_tn ?_
        refine at_seq ?_
        refine at_region ?_
        refine r_move rfl rfl rfl ?_
        refine r_move rfl rfl rfl ?_
        refine r_div (r := ((dg8 (a + b) i : Nat) : Int)) rfl rfl rfl rfl (by omega) (congrArg some ((rem_n _ 256 rfl rfl).trans (by rw [ad8S_low]; rfl))) ?_
        refine r_buildSlice [(0, _)] (fun g => [_, _, _, ⟨some g, 3, _, 1, true⟩]) rfl rfl rfl (bs85_1) rfl (fun _ => rfl) (fun g0 => ?_)
        refine q_append (s := 1) (len := i) (n2 := 1) 2 3 (fun r => [_, _, ⟨some r.g, 3, NV .i64 (row (i + 1) (dg8 (a + b))), r.n, true⟩, ⟨some g0, 3, _, 1, true⟩]) u85 el3 rfl rfl rfl rfl rfl rfl rfl rfl rfl rfl rfl rfl (by rw [NV_length, row_length]; omega) (by omega) (by show oc * 1 ≤ oN; omega) rfl (one_cell _ _) (by omega) (fun r => congrArg (fun c => [_, _, (⟨some r.g, 3, c, r.n, true⟩ : Blk), ⟨some g0, 3, _, 1, true⟩]) (NV_snoc _ _ _ _ (rfl))) (fun r => ?_)
        refine r_assign rfl rfl rfl ?_
        refine run_nil ?_
        refine at_tn ?_
        refine at_region ?_
        refine r_move rfl rfl rfl ?_
        refine r_div (r := ((ad8C a b (i + 1) : Nat) : Int)) rfl rfl rfl rfl (by omega) (congrArg some ((quo_i _ 256 rfl rfl (by omega)).trans (by rw [ad8S_carry]))) ?_
        refine r_assign rfl rfl rfl ?_
        refine run_nil ?_
        refine at_bn ?_
        refine at_tn ?_
        refine at_region ?_
        refine r_move rfl rfl rfl ?_
        refine r_arith (r := ((i + 1 : Nat) : Int)) rfl rfl rfl rfl (congrArg some (wi (by omega) (by omega) (by omega))) ?_
        refine r_assign rfl rfl rfl ?_
        refine run_nil ?_
        refine at_tn ?_
        exact nextL ⟨(i + 1, some r.g, r.n, r.cap), Nat.succ_le_succ hmx, r.h, by have := r.hn; show r.cap ≤ r.n; omega⟩ (by show max (nb a) (nb b) + 1 - (i + 1) < max (nb a) (nb b) + 1 - i; omega) ⟨rfl, rfl, rfl, rfl, rfl, trivial⟩ (weak_picks [some 0, some 1, some 2] ⟨⟨_, rfl, Blk.le_refl _⟩, ⟨_, rfl, Blk.le_refl _⟩, ⟨_, rfl, Blk.le_refl _⟩, trivial⟩ rfl rfl)
      ·
        have hjb : nb b ≤ i := (by have := of_decide_eq_false hb3; omega)
        refine at_know 6 (.int .i64 (ad8S a b i : Nat)) rfl (by rw [ad8S_eq, dg8_above hjb]; rfl) ?_
        refine at_skip ?_
        refine at_tn ?_
        refine at_seq ?_
        refine at_region ?_
        refine r_move rfl rfl rfl ?_
        refine r_move rfl rfl rfl ?_
        refine r_div (r := ((dg8 (a + b) i : Nat) : Int)) rfl rfl rfl rfl (by omega) (congrArg some ((rem_n _ 256 rfl rfl).trans (by rw [ad8S_low]; rfl))) ?_
        refine r_buildSlice [(0, _)] (fun g => [_, _, _, ⟨some g, 3, _, 1, true⟩]) rfl rfl rfl (bs85_1) rfl (fun _ => rfl) (fun g0 => ?_)
        refine q_append (s := 1) (len := i) (n2 := 1) 2 3 (fun r => [_, _, ⟨some r.g, 3, NV .i64 (row (i + 1) (dg8 (a + b))), r.n, true⟩, ⟨some g0, 3, _, 1, true⟩]) u85 el3 rfl rfl rfl rfl rfl rfl rfl rfl rfl rfl rfl rfl (by rw [NV_length, row_length]; omega) (by omega) (by show oc * 1 ≤ oN; omega) rfl (one_cell _ _) (by omega) (fun r => congrArg (fun c => [_, _, (⟨some r.g, 3, c, r.n, true⟩ : Blk), ⟨some g0, 3, _, 1, true⟩]) (NV_snoc _ _ _ _ (rfl))) (fun r => ?_)
        refine r_assign rfl rfl rfl ?_
        refine run_nil ?_
        refine at_tn ?_
        refine at_region ?_
        refine r_move rfl rfl rfl ?_
        refine r_div (r := ((ad8C a b (i + 1) : Nat) : Int)) rfl rfl rfl rfl (by omega) (congrArg some ((quo_i _ 256 rfl rfl (by omega)).trans (by rw [ad8S_carry]))) ?_
        refine r_assign rfl rfl rfl ?_
        refine run_nil ?_
        refine at_bn ?_
        refine at_tn ?_
        refine at_region ?_
        refine r_move rfl rfl rfl ?_
        refine r_arith (r := ((i + 1 : Nat) : Int)) rfl rfl rfl rfl (congrArg some (wi (by omega) (by omega) (by omega))) ?_
        refine r_assign rfl rfl rfl ?_
        refine run_nil ?_
        refine at_tn ?_
        exact nextL ⟨(i + 1, some r.g, r.n, r.cap), Nat.succ_le_succ hmx, r.h, by have := r.hn; show r.cap ≤ r.n; omega⟩ (by show max (nb a) (nb b) + 1 - (i + 1) < max (nb a) (nb b) + 1 - i; omega) ⟨rfl, rfl, rfl, rfl, rfl, trivial⟩ (weak_picks [some 0, some 1, some 2] ⟨⟨_, rfl, Blk.le_refl _⟩, ⟨_, rfl, Blk.le_refl _⟩, ⟨_, rfl, Blk.le_refl _⟩, trivial⟩ rfl rfl)
  ·
    have hia : nb a ≤ i := (by have := of_decide_eq_false hb1; omega)
    refine r_move rfl rfl rfl ?_
    refine r_move rfl rfl rfl ?_
    refine r_lenS u85 rfl rfl rfl ?_
    refine r_cmpInt rfl rfl rfl rfl rfl ?_
    refine r_pickF rfl rfl rfl rfl ?_
    refine r_move rfl rfl rfl ?_
    refine r_split 18 rfl (fun hb2 => ?_) (fun hb2 => ?_)
    ·
      have hib : i < nb b := (by have := of_decide_eq_true hb2; omega)
      have hmx : i ≤ max (nb a) (nb b) := by omega
      refine r_no rfl rfl rfl ?_
      refine r_no rfl rfl rfl ?_
      refine r_pickT rfl rfl rfl rfl ?_
      refine run_nil ?_
      refine at_tn ?_
      refine at_condT rfl ?_
      refine at_skip ?_
      refine at_tn ?_
      refine at_seq ?_
      refine at_block ?_
      refine at_seq ?_
      refine at_seq ?_
      refine at_region ?_
      refine r_move rfl rfl rfl ?_
      refine r_move rfl rfl rfl ?_
      refine r_lenS u85 rfl rfl rfl ?_
      refine r_cmpInt rfl rfl rfl rfl rfl ?_
      refine run_nil ?_
      refine at_tn ?_
      refine at_cond rfl (fun hb3 => ?_) (fun hb3 => ?_)
      ·
        have hja : i < nb a := (by have := of_decide_eq_true hb3; omega)
        have hcl := ad8C_le a b i
        have hax := m256 (a / 256 ^ i)
        have hbx := m256 (b / 256 ^ i)
        have hsl := ad8S_lt a b i
        refine at_region ?_
        refine r_move rfl rfl rfl ?_
        refine r_move rfl rfl rfl ?_
        refine r_move rfl rfl rfl ?_
        refine r_indexAddr 0 (i) u85 ti3 rfl rfl rfl rfl rfl (by omega) (by omega) (NV_ne (by rw [D8_length]; omega)) (by show 0 + Int.toNat _ * 1 = _; omega) ?_
        refine r_load1 0 (i) ti3 rfl rfl rfl rfl (NV_get (D8_get (by omega))) ?_
        refine r_arith (r := ((ad8C a b i + a / 256 ^ i % 256 : Nat) : Int)) rfl rfl rfl rfl (congrArg some (wi (by omega) (by omega) (by omega))) ?_
        refine r_assign rfl rfl rfl ?_
        refine run_nil ?_
        refine at_tn ?_
        refine at_seq ?_
        refine at_seq ?_
        refine at_region ?_
        refine r_move rfl rfl rfl ?_
        refine r_move rfl rfl rfl ?_
        refine r_lenS u85 rfl rfl rfl ?_
        refine r_cmpInt rfl rfl rfl rfl rfl ?_
        refine run_nil ?_
        refine at_tn ?_
        refine at_cond rfl (fun hb4 => ?_) (fun hb4 => ?_)
        ·
          have hjb : i < nb b := (by have := of_decide_eq_true hb4; omega)
          refine at_region ?_
          refine r_move rfl rfl rfl ?_
          refine r_move rfl rfl rfl ?_
          refine r_move rfl rfl rfl ?_
          refine r_indexAddr 1 (i) u85 ti3 rfl rfl rfl rfl rfl (by omega) (by omega) (NV_ne (by rw [D8_length]; omega)) (by show 0 + Int.toNat _ * 1 = _; omega) ?_
          refine r_load1 1 (i) ti3 rfl rfl rfl rfl (NV_get (D8_get (by omega))) ?_
          refine r_arith (r := ((ad8S a b i : Nat) : Int)) rfl rfl rfl rfl (congrArg some (wi (by omega) (by omega) (by rw [ad8S_eq]; omega))) ?_
          refine r_assign rfl rfl rfl ?_
          refine run_nil ?_
          refine at_tn ?_
          refine at_seq ?_
          refine at_region ?_
          refine r_move rfl rfl rfl ?_
          refine r_move rfl rfl rfl ?_
          refine r_div (r := ((dg8 (a + b) i : Nat) : Int)) rfl rfl rfl rfl (by omega) (congrArg some ((rem_n _ 256 rfl rfl).trans (by rw [ad8S_low]; rfl))) ?_
          refine r_buildSlice [(0, _)] (fun g => [_, _, _, ⟨some g, 3, _, 1, true⟩]) rfl rfl rfl (bs85_1) rfl (fun _ => rfl) (fun g0 => ?_)
          refine q_append (s := 1) (len := i) (n2 := 1) 2 3 (fun r => [_, _, ⟨some r.g, 3, NV .i64 (row (i + 1) (dg8 (a + b))), r.n, true⟩, ⟨some g0, 3, _, 1, true⟩]) u85 el3 rfl rfl rfl rfl rfl rfl rfl rfl rfl rfl rfl rfl (by rw [NV_length, row_length]; omega) (by omega) (by show oc * 1 ≤ oN; omega) rfl (one_cell _ _) (by omega) (fun r => congrArg (fun c => [_, _, (⟨some r.g, 3, c, r.n, true⟩ : Blk), ⟨some g0, 3, _, 1, true⟩]) (NV_snoc _ _ _ _ (rfl))) (fun r => ?_)
          refine r_assign rfl rfl rfl ?_
          refine run_nil ?_
          refine at_tn ?_
          refine at_region ?_
          refine r_move rfl rfl rfl ?_
          refine r_div (r := ((ad8C a b (i + 1) : Nat) : Int)) rfl rfl rfl rfl (by omega) (congrArg some ((quo_i _ 256 rfl rfl (by omega)).trans (by rw [ad8S_carry]))) ?_
          refine r_assign rfl rfl rfl ?_
          refine run_nil ?_
          refine at_bn ?_
          refine at_tn ?_
          refine at_region ?_
          refine r_move rfl rfl rfl ?_
          refine r_arith (r := ((i + 1 : Nat) : Int)) rfl rfl rfl rfl (congrArg some (wi (by omega) (by omega) (by omega))) ?_
          refine r_assign rfl rfl rfl ?_
          refine run_nil ?_
          refine at_tn ?_
          exact nextL ⟨(i + 1, some r.g, r.n, r.cap), Nat.succ_le_succ hmx, r.h, by have := r.hn; show r.cap ≤ r.n; omega⟩ (by show max (nb a) (nb b) + 1 - (i + 1) < max (nb a) (nb b) + 1 - i; omega) ⟨rfl, rfl, rfl, rfl, rfl, trivial⟩ (weak_picks [some 0, some 1, some 2] ⟨⟨_, rfl, Blk.le_refl _⟩, ⟨_, rfl, Blk.le_refl _⟩, ⟨_, rfl, Blk.le_refl _⟩, trivial⟩ rfl rfl)
        ·
          have hjb : nb b ≤ i := (by have := of_decide_eq_false hb4; omega)
          refine at_know 6 (.int .i64 (ad8S a b i : Nat)) rfl (by rw [ad8S_eq, dg8_above hjb]; rfl) ?_
          refine at_skip ?_
          refine at_tn ?_
          refine at_seq ?_
          refine at_region ?_
          refine r_move rfl rfl rfl ?_
          refine r_move rfl rfl rfl ?_
          refine r_div (r := ((dg8 (a + b) i : Nat) : Int)) rfl rfl rfl rfl (by omega) (congrArg some ((rem_n _ 256 rfl rfl).trans (by rw [ad8S_low]; rfl))) ?_
          refine r_buildSlice [(0, _)] (fun g => [_, _, _, ⟨some g, 3, _, 1, true⟩]) rfl rfl rfl (bs85_1) rfl (fun _ => rfl) (fun g0 => ?_)
          refine q_append (s := 1) (len := i) (n2 := 1) 2 3 (fun r => [_, _, ⟨some r.g, 3, NV .i64 (row (i + 1) (dg8 (a + b))), r.n, true⟩, ⟨some g0, 3, _, 1, true⟩]) u85 el3 rfl rfl rfl rfl rfl rfl rfl rfl rfl rfl rfl rfl (by rw [NV_length, row_length]; omega) (by omega) (by show oc * 1 ≤ oN; omega) rfl (one_cell _ _) (by omega) (fun r => congrArg (fun c => [_, _, (⟨some r.g, 3, c, r.n, true⟩ : Blk), ⟨some g0, 3, _, 1, true⟩]) (NV_snoc _ _ _ _ (rfl))) (fun r => ?_)
          refine r_assign rfl rfl rfl ?_
          refine run_nil ?_
          refine at_tn ?_
          refine at_region ?_
          refine r_move rfl rfl rfl ?_
          refine r_div (r := ((ad8C a b (i + 1) : Nat) : Int)) rfl rfl rfl rfl (by omega) (congrArg some ((quo_i _ 256 rfl rfl (by omega)).trans (by rw [ad8S_carry]))) ?_
          refine r_assign rfl rfl rfl ?_
          refine run_nil ?_
          refine at_bn ?_
          refine at_tn ?_
          refine at_region ?_
          refine r_move rfl rfl rfl ?_
          refine r_arith (r := ((i + 1 : Nat) : Int)) rfl rfl rfl rfl (congrArg some (wi (by omega) (by omega) (by omega))) ?_
          refine r_assign rfl rfl rfl ?_
          refine run_nil ?_
          refine at_tn ?_
          exact nextL ⟨(i + 1, some r.g, r.n, r.cap), Nat.succ_le_succ hmx, r.h, by have := r.hn; show r.cap ≤ r.n; omega⟩ (by show max (nb a) (nb b) + 1 - (i + 1) < max (nb a) (nb b) + 1 - i; omega) ⟨rfl, rfl, rfl, rfl, rfl, trivial⟩ (weak_picks [some 0, some 1, some 2] ⟨⟨_, rfl, Blk.le_refl _⟩, ⟨_, rfl, Blk.le_refl _⟩, ⟨_, rfl, Blk.le_refl _⟩, trivial⟩ rfl rfl)
      ·
        have hja : nb a ≤ i := (by have := of_decide_eq_false hb3; omega)
        have hcl := ad8C_le a b i
        have hax := m256 (a / 256 ^ i)
        have hbx := m256 (b / 256 ^ i)
        have hsl := ad8S_lt a b i
        refine at_know 6 (.int .i64 (ad8C a b i + a / 256 ^ i % 256 : Nat)) rfl (by rw [dg8_above hja]; rfl) ?_
        refine at_skip ?_
        refine at_tn ?_
        refine at_seq ?_
        refine at_seq ?_
        refine at_region ?_
        refine r_move rfl rfl rfl ?_
        refine r_move rfl rfl rfl ?_
        refine r_lenS u85 rfl rfl rfl ?_
        refine r_cmpInt rfl rfl rfl rfl rfl ?_
        refine run_nil ?_
        refine at_tn ?_
        refine at_cond rfl (fun hb4 => ?_) (fun hb4 => ?_)
        ·
          have hjb : i < nb b := (by have := of_decide_eq_true hb4; omega)
          refine at_region ?_
          refine r_move rfl rfl rfl ?_
          refine r_move rfl rfl rfl ?_
          refine r_move rfl rfl rfl ?_
          refine r_indexAddr 1 (i) u85 ti3 rfl rfl rfl rfl rfl (by omega) (by omega) (NV_ne (by rw [D8_length]; omega)) (by show 0 + Int.toNat _ * 1 = _; omega) ?_
          refine r_load1 1 (i) ti3 rfl rfl rfl rfl (NV_get (D8_get (by omega))) ?_
          refine r_arith (r := ((ad8S a b i : Nat) : Int)) rfl rfl rfl rfl (congrArg some (wi (by omega) (by omega) (by rw [ad8S_eq]; omega))) ?_
          refine r_assign rfl rfl rfl ?_
          refine run_nil ?_
          refine at_tn ?_
          refine at_seq ?_
          refine at_region ?_
          refine r_move rfl rfl rfl ?_
          refine r_move rfl rfl rfl ?_
          refine r_div (r := ((dg8 (a + b) i : Nat) : Int)) rfl rfl rfl rfl (by omega) (congrArg some ((rem_n _ 256 rfl rfl).trans (by rw [ad8S_low]; rfl))) ?_
          refine r_buildSlice [(0, _)] (fun g => [_, _, _, ⟨some g, 3, _, 1, true⟩]) rfl rfl rfl (bs85_1) rfl (fun _ => rfl) (fun g0 => ?_)
          refine q_append (s := 1) (len := i) (n2 := 1) 2 3 (fun r => [_, _, ⟨some r.g, 3, NV .i64 (row (i + 1) (dg8 (a + b))), r.n, true⟩, ⟨some g0, 3, _, 1, true⟩]) u85 el3 rfl rfl rfl rfl rfl rfl rfl rfl rfl rfl rfl rfl (by rw [NV_length, row_length]; omega) (by omega) (by show oc * 1 ≤ oN; omega) rfl (one_cell _ _) (by omega) (fun r => congrArg (fun c => [_, _, (⟨some r.g, 3, c, r.n, true⟩ : Blk), ⟨some g0, 3, _, 1, true⟩]) (NV_snoc _ _ _ _ (rfl))) (fun r => ?_)
          refine r_assign rfl rfl rfl ?_
          refine run_nil ?_
          refine at_tn ?_
          refine at_region ?_
          refine r_move rfl rfl rfl ?_
          refine r_div (r := ((ad8C a b (i + 1) : Nat) : Int)) rfl rfl rfl rfl (by omega) (congrArg some ((quo_i _ 256 rfl rfl (by omega)).trans (by rw [ad8S_carry]))) ?_
          refine r_assign rfl rfl rfl ?_
          refine run_nil ?_
          refine at_bn ?_
          refine at_tn ?_
          refine at_region ?_
          refine r_move rfl rfl rfl ?_
          refine r_arith (r := ((i + 1 : Nat) : Int)) rfl rfl rfl rfl (congrArg some (wi (by omega) (by omega) (by omega))) ?_
          refine r_assign rfl rfl rfl ?_
          refine run_nil ?_
          refine at_tn ?_
          exact nextL ⟨(i + 1, some r.g, r.n, r.cap), Nat.succ_le_succ hmx, r.h, by have := r.hn; show r.cap ≤ r.n; omega⟩ (by show max (nb a) (nb b) + 1 - (i + 1) < max (nb a) (nb b) + 1 - i; omega) ⟨rfl, rfl, rfl, rfl, rfl, trivial⟩ (weak_picks [some 0, some 1, some 2] ⟨⟨_, rfl, Blk.le_refl _⟩, ⟨_, rfl, Blk.le_refl _⟩, ⟨_, rfl, Blk.le_refl _⟩, trivial⟩ rfl rfl)
        ·
          have hjb : nb b ≤ i := (by have := of_decide_eq_false hb4; omega)
          refine at_know 6 (.int .i64 (ad8S a b i : Nat)) rfl (by rw [ad8S_eq, dg8_above hjb]; rfl) ?_
          refine at_skip ?_
          refine at_tn ?_
          refine at_seq ?_
          refine at_region ?_
          refine r_move rfl rfl rfl ?_
          refine r_move rfl rfl rfl ?_
          refine r_div (r := ((dg8 (a + b) i : Nat) : Int)) rfl rfl rfl rfl (by omega) (congrArg some ((rem_n _ 256 rfl rfl).trans (by rw [ad8S_low]; rfl))) ?_
          refine r_buildSlice [(0, _)] (fun g => [_, _, _, ⟨some g, 3, _, 1, true⟩]) rfl rfl rfl (bs85_1) rfl (fun _ => rfl) (fun g0 => ?_)
          refine q_append (s := 1) (len := i) (n2 := 1) 2 3 (fun r => [_, _, ⟨some r.g, 3, NV .i64 (row (i + 1) (dg8 (a + b))), r.n, true⟩, ⟨some g0, 3, _, 1, true⟩]) u85 el3 rfl rfl rfl rfl rfl rfl rfl rfl rfl rfl rfl rfl (by rw [NV_length, row_length]; omega) (by omega) (by show oc * 1 ≤ oN; omega) rfl (one_cell _ _) (by omega) (fun r => congrArg (fun c => [_, _, (⟨some r.g, 3, c, r.n, true⟩ : Blk), ⟨some g0, 3, _, 1, true⟩]) (NV_snoc _ _ _ _ (rfl))) (fun r => ?_)
          refine r_assign rfl rfl rfl ?_
          refine run_nil ?_
          refine at_tn ?_
          refine at_region ?_
          refine r_move rfl rfl rfl ?_
          refine r_div (r := ((ad8C a b (i + 1) : Nat) : Int)) rfl rfl rfl rfl (by omega) (congrArg some ((quo_i _ 256 rfl rfl (by omega)).trans (by rw [ad8S_carry]))) ?_
          refine r_assign rfl rfl rfl ?_
          refine run_nil ?_
          refine at_bn ?_
          refine at_tn ?_
          refine at_region ?_
          refine r_move rfl rfl rfl ?_
          refine r_arith (r := ((i + 1 : Nat) : Int)) rfl rfl rfl rfl (congrArg some (wi (by omega) (by omega) (by omega))) ?_
          refine r_assign rfl rfl rfl ?_
          refine run_nil ?_
          refine at_tn ?_
          exact nextL ⟨(i + 1, some r.g, r.n, r.cap), Nat.succ_le_succ hmx, r.h, by have := r.hn; show r.cap ≤ r.n; omega⟩ (by show max (nb a) (nb b) + 1 - (i + 1) < max (nb a) (nb b) + 1 - i; omega) ⟨rfl, rfl, rfl, rfl, rfl, trivial⟩ (weak_picks [some 0, some 1, some 2] ⟨⟨_, rfl, Blk.le_refl _⟩, ⟨_, rfl, Blk.le_refl _⟩, ⟨_, rfl, Blk.le_refl _⟩, trivial⟩ rfl rfl)
    ·
      have hib : nb b ≤ i := (by have := of_decide_eq_false hb2; omega)
      refine r_move rfl rfl rfl ?_
      refine r_cmpInt rfl rfl rfl rfl rfl ?_
      refine r_pickF rfl rfl rfl rfl ?_
      refine run_nil ?_
      refine at_tn ?_
      refine at_cond rfl (fun hb3 => ?_) (fun hb3 => ?_)
      ·
        have hmx := plus_more a b i (by have := of_decide_eq_true hb3; omega) hia hib
        refine at_skip ?_
        refine at_tn ?_
        refine at_seq ?_
        refine at_block ?_
        refine at_seq ?_
        refine at_seq ?_
        refine at_region ?_
        refine r_move rfl rfl rfl ?_
        refine r_move rfl rfl rfl ?_
        refine r_lenS u85 rfl rfl rfl ?_
        refine r_cmpInt rfl rfl rfl rfl rfl ?_
        refine run_nil ?_
        refine at_tn ?_
        refine at_cond rfl (fun hb4 => ?_) (fun hb4 => ?_)
        ·
          have hja : i < nb a := (by have := of_decide_eq_true hb4; omega)
          have hcl := ad8C_le a b i
          have hax := m256 (a / 256 ^ i)
          have hbx := m256 (b / 256 ^ i)
          have hsl := ad8S_lt a b i
          refine at_region ?_
          refine r_move rfl rfl rfl ?_
          refine r_move rfl rfl rfl ?_
          refine r_move rfl rfl rfl ?_
          refine r_indexAddr 0 (i) u85 ti3 rfl rfl rfl rfl rfl (by omega) (by omega) (NV_ne (by rw [D8_length]; omega)) (by show 0 + Int.toNat _ * 1 = _; omega) ?_
          refine r_load1 0 (i) ti3 rfl rfl rfl rfl (NV_get (D8_get (by omega))) ?_
          refine r_arith (r := ((ad8C a b i + a / 256 ^ i % 256 : Nat) : Int)) rfl rfl rfl rfl (congrArg some (wi (by omega) (by omega) (by omega))) ?_
          refine r_assign rfl rfl rfl ?_
          refine run_nil ?_
          refine at_tn ?_
          refine at_seq ?_
          refine at_seq ?_
          refine at_region ?_
          refine r_move rfl rfl rfl ?_
          refine r_move rfl rfl rfl ?_
          refine r_lenS u85 rfl rfl rfl ?_
          refine r_cmpInt rfl rfl rfl rfl rfl ?_
          refine run_nil ?_
          refine at_tn ?_
          refine at_cond rfl (fun hb5 => ?_) (fun hb5 => ?_)
          ·
            have hjb : i < nb b := (by have := of_decide_eq_true hb5; omega)
            refine at_region ?_
            refine r_move rfl rfl rfl ?_
            refine r_move rfl rfl rfl ?_
            refine r_move rfl rfl rfl ?_
            refine r_indexAddr 1 (i) u85 ti3 rfl rfl rfl rfl rfl (by omega) (by omega) (NV_ne (by rw [D8_length]; omega)) (by show 0 + Int.toNat _ * 1 = _; omega) ?_
            refine r_load1 1 (i) ti3 rfl rfl rfl rfl (NV_get (D8_get (by omega))) ?_
            refine r_arith (r := ((ad8S a b i : Nat) : Int)) rfl rfl rfl rfl (congrArg some (wi (by omega) (by omega) (by rw [ad8S_eq]; omega))) ?_
            refine r_assign rfl rfl rfl ?_
            refine run_nil ?_
            refine at_tn ?_
            refine at_seq ?_
            refine at_region ?_
            refine r_move rfl rfl rfl ?_
            refine r_move rfl rfl rfl ?_
            refine r_div (r := ((dg8 (a + b) i : Nat) : Int)) rfl rfl rfl rfl (by omega) (congrArg some ((rem_n _ 256 rfl rfl).trans (by rw [ad8S_low]; rfl))) ?_
            refine r_buildSlice [(0, _)] (fun g => [_, _, _, ⟨some g, 3, _, 1, true⟩]) rfl rfl rfl (bs85_1) rfl (fun _ => rfl) (fun g0 => ?_)
            refine q_append (s := 1) (len := i) (n2 := 1) 2 3 (fun r => [_, _, ⟨some r.g, 3, NV .i64 (row (i + 1) (dg8 (a + b))), r.n, true⟩, ⟨some g0, 3, _, 1, true⟩]) u85 el3 rfl rfl rfl rfl rfl rfl rfl rfl rfl rfl rfl rfl (by rw [NV_length, row_length]; omega) (by omega) (by show oc * 1 ≤ oN; omega) rfl (one_cell _ _) (by omega) (fun r => congrArg (fun c => [_, _, (⟨some r.g, 3, c, r.n, true⟩ : Blk), ⟨some g0, 3, _, 1, true⟩]) (NV_snoc _ _ _ _ (rfl))) (fun r => ?_)
            refine r_assign rfl rfl rfl ?_
            refine run_nil ?_
            refine at_tn ?_
            refine at_region ?_
            refine r_move rfl rfl rfl ?_
            refine r_div (r := ((ad8C a b (i + 1) : Nat) : Int)) rfl rfl rfl rfl (by omega) (congrArg some ((quo_i _ 256 rfl rfl (by omega)).trans (by rw [ad8S_carry]))) ?_
            refine r_assign rfl rfl rfl ?_
            refine run_nil ?_
            refine at_bn ?_
            refine at_tn ?_
            refine at_region ?_
            refine r_move rfl rfl rfl ?_
            refine r_arith (r := ((i + 1 : Nat) : Int)) rfl rfl rfl rfl (congrArg some (wi (by omega) (by omega) (by omega))) ?_
            refine r_assign rfl rfl rfl ?_
            refine run_nil ?_
            refine at_tn ?_
            exact nextL ⟨(i + 1, some r.g, r.n, r.cap), Nat.succ_le_succ hmx, r.h, by have := r.hn; show r.cap ≤ r.n; omega⟩ (by show max (nb a) (nb b) + 1 - (i + 1) < max (nb a) (nb b) + 1 - i; omega) ⟨rfl, rfl, rfl, rfl, rfl, trivial⟩ (weak_picks [some 0, some 1, some 2] ⟨⟨_, rfl, Blk.le_refl _⟩, ⟨_, rfl, Blk.le_refl _⟩, ⟨_, rfl, Blk.le_refl _⟩, trivial⟩ rfl rfl)
          ·
            have hjb : nb b ≤ i := (by have := of_decide_eq_false hb5; omega)
            refine at_know 6 (.int .i64 (ad8S a b i : Nat)) rfl (by rw [ad8S_eq, dg8_above hjb]; rfl) ?_
            refine at_skip ?_
            refine at_tn ?_
            refine at_seq ?_
            refine at_region ?_
            refine r_move rfl rfl rfl ?_
            refine r_move rfl rfl rfl ?_
            refine r_div (r := ((dg8 (a + b) i : Nat) : Int)) rfl rfl rfl rfl (by omega) (congrArg some ((rem_n _ 256 rfl rfl).trans (by rw [ad8S_low]; rfl))) ?_
            refine r_buildSlice [(0, _)] (fun g => [_, _, _, ⟨some g, 3, _, 1, true⟩]) rfl rfl rfl (bs85_1) rfl (fun _ => rfl) (fun g0 => ?_)
            refine q_append (s := 1) (len := i) (n2 := 1) 2 3 (fun r => [_, _, ⟨some r.g, 3, NV .i64 (row (i + 1) (dg8 (a + b))), r.n, true⟩, ⟨some g0, 3, _, 1, true⟩]) u85 el3 rfl rfl rfl rfl rfl rfl rfl rfl rfl rfl rfl rfl (by rw [NV_length, row_length]; omega) (by omega) (by show oc * 1 ≤ oN; omega) rfl (one_cell _ _) (by omega) (fun r => congrArg (fun c => [_, _, (⟨some r.g, 3, c, r.n, true⟩ : Blk), ⟨some g0, 3, _, 1, true⟩]) (NV_snoc _ _ _ _ (rfl))) (fun r => ?_)
            refine r_assign rfl rfl rfl ?_
            refine run_nil ?_
            refine at_tn ?_
            refine at_region ?_
            refine r_move rfl rfl rfl ?_
            refine r_div (r := ((ad8C a b (i + 1) : Nat) : Int)) rfl rfl rfl rfl (by omega) (congrArg some ((quo_i _ 256 rfl rfl (by omega)).trans (by rw [ad8S_carry]))) ?_
            refine r_assign rfl rfl rfl ?_
            refine run_nil ?_
            refine at_bn ?_
            refine at_tn ?_
            refine at_region ?_
            refine r_move rfl rfl rfl ?_
            refine r_arith (r := ((i + 1 : Nat) : Int)) rfl rfl rfl rfl (congrArg some (wi (by omega) (by omega) (by omega))) ?_
            refine r_assign rfl rfl rfl ?_
            refine run_nil ?_
            refine at_tn ?_
            exact nextL ⟨(i + 1, some r.g, r.n, r.cap), Nat.succ_le_succ hmx, r.h, by have := r.hn; show r.cap ≤ r.n; omega⟩ (by show max (nb a) (nb b) + 1 - (i + 1) < max (nb a) (nb b) + 1 - i; omega) ⟨rfl, rfl, rfl, rfl, rfl, trivial⟩ (weak_picks [some 0, some 1, some 2] ⟨⟨_, rfl, Blk.le_refl _⟩, ⟨_, rfl, Blk.le_refl _⟩, ⟨_, rfl, Blk.le_refl _⟩, trivial⟩ rfl rfl)
        ·
          have hja : nb a ≤ i := (by have := of_decide_eq_false hb4; omega)
          have hcl := ad8C_le a b i
          have hax := m256 (a / 256 ^ i)
          have hbx := m256 (b / 256 ^ i)
          have hsl := ad8S_lt a b i
          refine at_know 6 (.int .i64 (ad8C a b i + a / 256 ^ i % 256 : Nat)) rfl (by rw [dg8_above hja]; rfl) ?_
          refine at_skip ?_
          refine at_tn ?_
          refine at_seq ?_
          refine at_seq ?_
          refine at_region ?_
          refine r_move rfl rfl rfl ?_
          refine r_move rfl rfl rfl ?_
          refine r_lenS u85 rfl rfl rfl ?_
          refine r_cmpInt rfl rfl rfl rfl rfl ?_
          refine run_nil ?_
          refine at_tn ?_
          refine at_cond rfl (fun hb5 => ?_) (fun hb5 => ?_)
          ·
            have hjb : i < nb b := (by have := of_decide_eq_true hb5; omega)
            refine at_region ?_
            refine r_move rfl rfl rfl ?_
            refine r_move rfl rfl rfl ?_
            refine r_move rfl rfl rfl ?_
            refine r_indexAddr 1 (i) u85 ti3 rfl rfl rfl rfl rfl (by omega) (by omega) (NV_ne (by rw [D8_length]; omega)) (by show 0 + Int.toNat _ * 1 = _; omega) ?_
            refine r_load1 1 (i) ti3 rfl rfl rfl rfl (NV_get (D8_get (by omega))) ?_
            refine r_arith (r := ((ad8S a b i : Nat) : Int)) rfl rfl rfl rfl (congrArg some (wi (by omega) (by omega) (by rw [ad8S_eq]; omega))) ?_
            refine r_assign rfl rfl rfl ?_
            refine run_nil ?_
            refine at_tn ?_
            refine at_seq ?_
            refine at_region ?_
            refine r_move rfl rfl rfl ?_
            refine r_move rfl rfl rfl ?_
            refine r_div (r := ((dg8 (a + b) i : Nat) : Int)) rfl rfl rfl rfl (by omega) (congrArg some ((rem_n _ 256 rfl rfl).trans (by rw [ad8S_low]; rfl))) ?_
            refine r_buildSlice [(0, _)] (fun g => [_, _, _, ⟨some g, 3, _, 1, true⟩]) rfl rfl rfl (bs85_1) rfl (fun _ => rfl) (fun g0 => ?_)
            refine q_append (s := 1) (len := i) (n2 := 1) 2 3 (fun r => [_, _, ⟨some r.g, 3, NV .i64 (row (i + 1) (dg8 (a + b))), r.n, true⟩, ⟨some g0, 3, _, 1, true⟩]) u85 el3 rfl rfl rfl rfl rfl rfl rfl rfl rfl rfl rfl rfl (by rw [NV_length, row_length]; omega) (by omega) (by show oc * 1 ≤ oN; omega) rfl (one_cell _ _) (by omega) (fun r => congrArg (fun c => [_, _, (⟨some r.g, 3, c, r.n, true⟩ : Blk), ⟨some g0, 3, _, 1, true⟩]) (NV_snoc _ _ _ _ (rfl))) (fun r => ?_)
            refine r_assign rfl rfl rfl ?_
            refine run_nil ?_
            refine at_tn ?_
            refine at_region ?_
            refine r_move rfl rfl rfl ?_
            refine r_div (r := ((ad8C a b (i + 1) : Nat) : Int)) rfl rfl rfl rfl (by omega) (congrArg some ((quo_i _ 256 rfl rfl (by omega)).trans (by rw [ad8S_carry]))) ?_
            refine r_assign rfl rfl rfl ?_
            refine run_nil ?_
            refine at_bn ?_
            refine at_tn ?_
            refine at_region ?_
            refine r_move rfl rfl rfl ?_
            refine r_arith (r := ((i + 1 : Nat) : Int)) rfl rfl rfl rfl (congrArg some (wi (by omega) (by omega) (by omega))) ?_
            refine r_assign rfl rfl rfl ?_
            refine run_nil ?_
            refine at_tn ?_
            exact nextL ⟨(i + 1, some r.g, r.n, r.cap), Nat.succ_le_succ hmx, r.h, by have := r.hn; show r.cap ≤ r.n; omega⟩ (by show max (nb a) (nb b) + 1 - (i + 1) < max (nb a) (nb b) + 1 - i; omega) ⟨rfl, rfl, rfl, rfl, rfl, trivial⟩ (weak_picks [some 0, some 1, some 2] ⟨⟨_, rfl, Blk.le_refl _⟩, ⟨_, rfl, Blk.le_refl _⟩, ⟨_, rfl, Blk.le_refl _⟩, trivial⟩ rfl rfl)
          ·
            have hjb : nb b ≤ i := (by have := of_decide_eq_false hb5; omega)
            refine at_know 6 (.int .i64 (ad8S a b i : Nat)) rfl (by rw [ad8S_eq, dg8_above hjb]; rfl) ?_
            refine at_skip ?_
            refine at_tn ?_
            refine at_seq ?_
            refine at_region ?_
            refine r_move rfl rfl rfl ?_
            refine r_move rfl rfl rfl ?_
            refine r_div (r := ((dg8 (a + b) i : Nat) : Int)) rfl rfl rfl rfl (by omega) (congrArg some ((rem_n _ 256 rfl rfl).trans (by rw [ad8S_low]; rfl))) ?_
            refine r_buildSlice [(0, _)] (fun g => [_, _, _, ⟨some g, 3, _, 1, true⟩]) rfl rfl rfl (bs85_1) rfl (fun _ => rfl) (fun g0 => ?_)
            refine q_append (s := 1) (len := i) (n2 := 1) 2 3 (fun r => [_, _, ⟨some r.g, 3, NV .i64 (row (i + 1) (dg8 (a + b))), r.n, true⟩, ⟨some g0, 3, _, 1, true⟩]) u85 el3 rfl rfl rfl rfl rfl rfl rfl rfl rfl rfl rfl rfl (by rw [NV_length, row_length]; omega) (by omega) (by show oc * 1 ≤ oN; omega) rfl (one_cell _ _) (by omega) (fun r => congrArg (fun c => [_, _, (⟨some r.g, 3, c, r.n, true⟩ : Blk), ⟨some g0, 3, _, 1, true⟩]) (NV_snoc _ _ _ _ (rfl))) (fun r => ?_)
            refine r_assign rfl rfl rfl ?_
            refine run_nil ?_
            refine at_tn ?_
            refine at_region ?_
            refine r_move rfl rfl rfl ?_
            refine r_div (r := ((ad8C a b (i + 1) : Nat) : Int)) rfl rfl rfl rfl (by omega) (congrArg some ((quo_i _ 256 rfl rfl (by omega)).trans (by rw [ad8S_carry]))) ?_
            refine r_assign rfl rfl rfl ?_
            refine run_nil ?_
            refine at_bn ?_
            refine at_tn ?_
            refine at_region ?_
            refine r_move rfl rfl rfl ?_
            refine r_arith (r := ((i + 1 : Nat) : Int)) rfl rfl rfl rfl (congrArg some (wi (by omega) (by omega) (by omega))) ?_
            refine r_assign rfl rfl rfl ?_
            refine run_nil ?_
            refine at_tn ?_
            exact nextL ⟨(i + 1, some r.g, r.n, r.cap), Nat.succ_le_succ hmx, r.h, by have := r.hn; show r.cap ≤ r.n; omega⟩ (by show max (nb a) (nb b) + 1 - (i + 1) < max (nb a) (nb b) + 1 - i; omega) ⟨rfl, rfl, rfl, rfl, rfl, trivial⟩ (weak_picks [some 0, some 1, some 2] ⟨⟨_, rfl, Blk.le_refl _⟩, ⟨_, rfl, Blk.le_refl _⟩, ⟨_, rfl, Blk.le_refl _⟩, trivial⟩ rfl rfl)
      ·
        have hab := plus_val a b i hia hib (by have := of_decide_eq_false hb3; omega)
        have hnab : nb (a + b) ≤ i := nb_le hab
        refine at_exit ?_
        refine at_te ?_
        refine at_te ?_
        refine at_be ?_
        refine at_tn ?_
        refine at_seq ?_
        refine at_region ?_
        refine r_move rfl rfl rfl ?_
        refine r_scall0 [_] [2] rfl rfl rfl (c_ref02_trim (row i (dg8 (a + b))) (row_lt fun j => dg8_lt _ j) (by rw [row_length]; omega) (row_length _ _) ⟨ob, oN, oc, h1⟩) ⟨⟨_, rfl, le_share⟩, trivial⟩ rfl ?_
        refine r_know 52 (slv ob 0 (nb (a + b)) oc) rfl (by rw [row_trim _ _ hab]; rfl) ?_
        refine r_assign rfl rfl rfl ?_
        refine run_nil ?_
        refine at_tn ?_
        refine at_ret ?_
        refine at_end1 rfl (res_tmp rfl) (fun w hL => ⟨⟨ob, oN, oc, by omega⟩, rfl, ?_⟩)
        exact hL.picks [some 2] ⟨⟨_, rfl, rfl, rfl, rfl, ⟨nb (a + b), row_take _ _ hab⟩, fun _ => rfl⟩, trivial⟩ rfl rfl

end Go.Proofs.YthnlafhnpphdhaaGreatDoor
